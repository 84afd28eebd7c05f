/- QC: Clk Cle Cld Vld InI Al Alk Ext Bas Use. No condition. -/
import Derived.Test.YtbedjionhmaafaaGreatDoorQB
set_option linter.all false
namespace Go.Proofs.YtbedjionhmaafaaGreatDoor
open Go.RowKit
theorem z7 {p:Prop} (h:p:=by exact PcW.mk' _ _ ⟨rfl,rfl⟩ leQ rfl leQ):p:=h
set_option maxRecDepth 100000
set_option maxHeartbeats 8000000
variable {a b:UInt8} {p:Prop}
abbrev tmC (t:Tm):List AV:=[iv t.y,iv t.mo,iv t.d,iv t.h,iv t.mi,iv t.s]
abbrev tmA (t:Tm):AV:= .agg (tmC t)
theorem QI (y:Nat):aC 196 [iv y] (bv (Wy y)):=by
 have q:∀n:Nat,(((y%n:Nat):Int)==0)=(y%n==0):=fun n=>by rw[Bz,A9,A9];omega
 have c:(((y%100:Nat):Int) !=0)= !(y%100==0):=by rw[<-q];rfl
 unfold Wy
 rw[<-c,<-q 4,<-q 400]
 cases f:(((y%4:Nat):Int)==0)<;>cases e:(((y%100:Nat):Int) !=0)<;>cases d:(((y%400:Nat):Int)==0)
 all_goals
  refine acQ 16 Tryz.func196 rfl rfl fun _ _ _=> ?_
  (repeat'((conv=>whnf);first|refine zP ?_|refine zN ?_|refine Ej ?_|refine Ee ?_|(with_reducible refine EI ?_)|refine Fv (by first|decide|omega|(simp only[D9,Ax];omega)) ?_));(all_goals(conv=>whnf))
  all_goals(refine E0 ?_;(repeat'(first|exact Er _|refine A1 ?_ ?_|exact rfl));(all_goals(conv=>whnf)))
  all_goals(rw[d];rfl)
theorem gp:∀m:Nat,1<=m->m<=12->([iv 31,iv 28,iv 31,iv 30,iv 31,iv 30,iv 31,iv 31,iv 30,iv 31,iv 30,iv 31]:List AV)[m-1]?=some (iv (HE m:Nat))
 |1,_,_=>rfl
 |2,_,_=>rfl
 |3,_,_=>rfl
 |4,_,_=>rfl
 |5,_,_=>rfl
 |6,_,_=>rfl
 |7,_,_=>rfl
 |8,_,_=>rfl
 |9,_,_=>rfl
 |10,_,_=>rfl
 |11,_,_=>rfl
 |12,_,_=>rfl
 |0,h,_=>Bg h Aa
 |n+13,_,h=>Bg h Aa
theorem QJ (y m:Nat) (r:y<=100000000) (s:m<=100000000):aC 178 [iv y,iv m] (iv (BB y m:Nat)):=by
 have f:=QI y
 have u:decide ((y:Int)<0)=false:=Ao Aa
 unfold BB
 by_cases h:9999<y\/m<1\/12<m
 ·rw[Aj h]
  have:decide ((y:Int)>9999)=true\/(decide ((y:Int)>9999)=false/\(decide ((m:Int)<1)=true\/(decide ((m:Int)<1)=false/\decide ((m:Int)>12)=true))):=by
   simp only[A3,Ar];omega
  rcases this with e|⟨e,d|⟨d,l⟩⟩
  all_goals
   refine acQ 29 Tryz.func178 rfl rfl fun _ _ _=> ?_
   (repeat'((conv=>whnf);first|refine zP ?_|refine zN ?_|refine Ej ?_|refine Ee ?_|exact zE))
 rw[Ai h]
 have e:decide ((y:Int)>9999)=false:=Ao Aa
 have d:decide ((m:Int)<1)=false:=Ao Aa
 have l:decide ((m:Int)>12)=false:=Ao Aa
 have q:=gp m Aa Aa
 have c:(((m:Int)==2)=true/\Wy y=true/\(if m=2/\Wy y=true then 29 else HE m)=29)\/((((m:Int)==2)=false\/(((m:Int)==2)=true/\Wy y=false))/\(if m=2/\Wy y=true then 29 else HE m)=HE m):=by
  by_cases g:m=2
  ·subst g
   cases Wy y
   ·exact .inr ⟨.inr ⟨rfl,rfl⟩,rfl⟩
   ·exact .inl ⟨rfl,rfl,rfl⟩
  ·exact .inr ⟨.inl (by rw[An];omega),Ai fun h=>g h.1⟩
 generalize (if m=2/\Wy y=true then 29 else HE m)=R at c|-
 rcases c with⟨i,j,rfl⟩|⟨i|⟨i,j⟩,rfl⟩
 all_goals
  try rw[j] at f
  refine acQ 29 Tryz.func178 rfl rfl fun _ _ _=> ?_
  (repeat'((conv=>whnf);first|refine zP ?_|refine zN ?_|refine Ej ?_|refine Ee ?_|refine Al f rfl ?_|refine Cs (Yz rfl rfl (ltN rfl) (Eg.ty rfl) (Eg.ty rfl) rfl rfl) ?_|refine Cs (GV (m-1) rfl rfl (ltN rfl) rfl rfl (Eg.ty rfl).u (Eg.ty rfl) rfl Aa Aa q) ?_|(with_reducible refine NInt.i64 ?_)|exact zE))
structure Tm.bd (t:Tm):Prop where
 y:t.y<=100000000
 m:t.mo<=100000000
theorem Qv (t:Tm) (g:t.bd):aC 152 [tmA t] (bv t.v):=by
 have j:=QJ t.y t.mo g.y g.m
 have q:∀n:Nat,decide ((n:Int)>=0)=true:=fun n=>Aq Aa
 have v:=q t.h
 have z:=q t.mi
 have w:=q t.s
 by_cases h:t.h<24/\t.mi<60/\t.s<60/\1<=t.d
 ·obtain⟨i,s,l,r⟩:=h
  have d:decide ((t.h:Int)<24)=true:=Aq Aa
  have c:decide ((t.mi:Int)<60)=true:=Aq Aa
  have f:decide ((t.s:Int)<60)=true:=Aq Aa
  have u:decide ((t.d:Int)>=1)=true:=Aq Aa
  have e:t.v=decide ((t.d:Int)<=(BB t.y t.mo:Nat)):=by
   unfold Tm.v
   rw[Aq i,Aq s,Aq l,Aq r]
   exact decide_eq_decide.2 Aa
  rw[e]
  refine acQ 48 Tryz.func152 rfl rfl fun _ _ _=> ?_
  (repeat'((conv=>whnf);first|refine zP ?_|refine zN ?_|refine Ej ?_|refine Ee ?_|refine Al j rfl ?_|refine zF ?_|exact zE))
 ·have e:t.v=false:=by
   unfold Tm.v
   simp only[C6,Ar]
   omega
  rw[e]
  have:decide ((t.h:Int)<24)=false\/(decide ((t.h:Int)<24)=true/\(decide ((t.mi:Int)<60)=false\/(decide ((t.mi:Int)<60)=true/\(decide ((t.s:Int)<60)=false\/(decide ((t.s:Int)<60)=true/\decide ((t.d:Int)>=1)=false))))):=by
   simp only[A3,Ar];omega
  rcases this with d|⟨d,c|⟨c,f|⟨f,u⟩⟩⟩
  all_goals
   refine acQ 48 Tryz.func152 rfl rfl fun _ _ _=> ?_
   (repeat'((conv=>whnf);first|refine zP ?_|refine zN ?_|refine Ej ?_|refine Ee ?_|refine zF ?_|exact zE))
set_option maxHeartbeats 16000000
theorem dR {m:Nat} {A:Int->Prop} (k:A ((chr m).toNat:Int)):NInt (IntKind.u8.wrap (48+(m:Int))) A:= .as _ (by rw[show(48:Int)+(m:Int)=((48+m:Nat):Int) by omega,jB];rfl) k
theorem BL {l:List UInt8} {A:Nat->List D->Prop} (k:A (l++[a,b]).length (Fj (l++[a,b]))) (h:l.length+2<=1000000000:=by(repeat' apply A1)<;>first|omega|rfl|(simp only[D9,Ax,En,Ec,Eh] at*;omega)):NApp l.length l.length 2 (Fj l) [.v (.int .u8 (a.toNat:Int)),.v (.int .u8 (b.toNat:Int))] A:= .bytes (m:=[a,b]) k h
theorem QK {A:Nat->List D->Prop} (k:A 2 (Fj [a,b])):NApp 0 0 2 [] [.v (.int .u8 (a.toNat:Int)),.v (.int .u8 (b.toNat:Int))] A:= .bytes0 (m:=[a,b]) k (by show 2<=_;omega)
theorem qP (n:Nat) (c:n<=99):aC 170 [Ff,iv n] (Hp 0 5 (O3 n)):=by
 refine acQ 16 Tryz.func170 rfl rfl fun _ _ _=> ?_
 (repeat'((conv=>whnf);first|(with_reducible refine dR ?_)|(refine QK ?_)|(with_reducible refine NInt.i64 ?_)|(with_reducible refine EH ?_)|(with_reducible refine EI ?_)|refine Fv (by first|decide|omega|(simp only[D9,Ax];omega)) ?_|exact zE))
def og (t:Tm) (m:Nat):AS:=⟨pk m 0 (17,.ptr 1 0) (pk m 1 (18,iv t.y) (pk m 2 (19,iv (t.y%100:Nat)) (pk m 4 (21,tmA t) (bif m.testBit 5 then(22,Hp 20 5 (dF t))::pk m 6 (2,Hp 20 5 (dF t)) [] else pk m 3 (20,Hp 20 5 (O3 (t.y%100))) []))))++pk m 7 (3,iv 0) [(1,.ptr 1 0)],[(1,tmC t)],bif m.testBit 5 then [(20,(dF t).length,1,5)] else pk m 3 (20,(O3 (t.y%100)).length,1,5) []⟩
theorem YL (t:Tm) (f:t.sm) (g:t.v=true) (h:1950<=t.y) (r:t.y<=2049):aC 139 [tmA t] (.tup [Hp 0 5 (dF t),iv 0]):=by
 obtain⟨q,s,k3,j,u,k6⟩:=f
 have c:=Qv t ⟨Aa,Aa⟩
 rw[g] at c
 have l:decide ((t.y:Int)<1950)=false:=Ao Aa
 have i:decide ((t.y:Int)>2049)=false:=Ao Aa
 have e:=qP (t.y%100) Aa
 refine acY 23 [169,1000005] Tryz.func139 rfl rfl fun _ _ _=> ?_
 (repeat'((conv=>whnf);first|refine zP ?_|refine zN ?_|refine Ej ?_|refine Ee ?_|refine Al c rfl ?_));(all_goals(conv=>whnf))
 refine Oh (og t) (P6 [170,169]) mixed leQ (by decide+kernel) Ac ?_ ?_
 rotate_left
 ·(all_goals(conv=>whnf))
  all_goals exact zE
 (repeat'((conv=>whnf);first|exact trivial|refine A1 ?_ ?_))
 all_goals
  (repeat'((conv=>whnf);first|refine Ej ?_|refine Ee ?_|refine NStep.call (e) rfl rfl (ltN rfl) 20 rfl rfl rfl rfl ?_|refine inY 100 30 [170,169] Tryz.func169 rfl rfl rfl rfl fun d=> ?_|refine inY 200 16 [170,169] Tryz.func170 rfl rfl rfl rfl fun d=> ?_|refine Hf 0 ?_|refine Hf 1 ?_|refine Hf 2 ?_|refine Hf 3 ?_|refine Hf 4 ?_|(refine Hv 5 ?_)|(refine Cv ?_)|(with_reducible refine dR ?_)|(refine BL ?_ (by simp[O3]))|(refine Tk 90 ?_ rfl (by simp[O3]))|(with_reducible refine NInt.i64 ?_)|(with_reducible refine EH ?_)|(with_reducible refine EI ?_)|refine Fv (by first|decide|omega|(simp only[D9,Ax];omega)) ?_));(all_goals(conv=>whnf))
 all_goals exact J6
def oq (t:Tm) (m:Nat):AS:=⟨pk m 0 (7,.ptr 1 0) (pk m 1 (8,iv t.y) (pk m 2 (9,iv (t.y/100:Nat)) (pk m 4 (11,.ptr 1 0) (pk m 5 (12,iv t.y) (pk m 6 (13,iv (t.y%100:Nat)) (pk m 8 (15,tmA t) (bif m.testBit 9 then(16,Hp 10 5 (dG t))::pk m 10 (2,Hp 10 5 (dG t)) [] else bif m.testBit 7 then [(14,Hp 10 5 (O3 (t.y/100)++O3 (t.y%100)))] else pk m 3 (10,Hp 10 5 (O3 (t.y/100))) [])))))))++pk m 11 (3,iv 0) [(1,.ptr 1 0)],[(1,tmC t)],bif m.testBit 9 then [(10,(dG t).length,1,5)] else bif m.testBit 7 then [(10,(O3 (t.y/100)++O3 (t.y%100)).length,1,5)] else pk m 3 (10,(O3 (t.y/100)).length,1,5) []⟩
theorem YM (t:Tm) (f:t.sm) (g:t.v=true):aC 140 [tmA t] (.tup [Hp 0 5 (dG t),iv 0]):=by
 obtain⟨h,j,k3,i,l,k6⟩:=f
 have c:=Qv t ⟨Aa,Aa⟩
 rw[g] at c
 have d:=qP (t.y/100) Aa
 refine acY 17 [169,170,1000003] Tryz.func140 rfl rfl fun _ _ _=> ?_
 (repeat'((conv=>whnf);first|refine Ee ?_|refine Al c rfl ?_));(all_goals(conv=>whnf))
 refine Oh (oq t) (P6 [170,169]) mixed leQ (by decide+kernel) Ac ?_ ?_
 rotate_left
 ·(all_goals(conv=>whnf))
  all_goals exact zE
 (repeat'((conv=>whnf);first|exact trivial|refine A1 ?_ ?_))
 all_goals
  (repeat'((conv=>whnf);first|refine Ej ?_|refine Ee ?_|refine NStep.call (d) rfl rfl (ltN rfl) 10 rfl rfl rfl rfl ?_|refine inY 100 30 [170,169] Tryz.func169 rfl rfl rfl rfl fun e=> ?_|refine inY 200 16 [170,169] Tryz.func170 rfl rfl rfl rfl fun e=> ?_|refine Hf 0 ?_|refine Hf 1 ?_|refine Hf 2 ?_|refine Hf 3 ?_|refine Hf 4 ?_|(refine Hv 5 ?_)|(refine Cv ?_)|(with_reducible refine dR ?_)|(refine BL ?_ (by simp[O3]))|(refine Tk 90 ?_ rfl (by simp[O3]))|(with_reducible refine NInt.i64 ?_)|(with_reducible refine EH ?_)|(with_reducible refine EI ?_)|refine Fv (by first|decide|omega|(simp only[D9,Ax];omega)) ?_));(all_goals(conv=>whnf))
 all_goals exact J6
set_option maxHeartbeats 32000000
theorem W2 {A:Int->Prop} (k:A ((dgN a b:Nat):Int)) (c:48<=a.toNat/\a.toNat<=57:=by assumption) (d:48<=b.toNat/\b.toNat<=57:=by assumption):NInt (IntKind.i64.wrap (((a.toNat:Int)-48)*10+((b.toNat:Int)-48))) A:= .as _ (by unfold dgN;rw[Bl _ Aa];omega) k
theorem BN (n:Nat) (c:List UInt8) (O:n<=4) (L:c.length<=100000000) (h:c.length≠n+11\/(c.length=n+11/\∃z,c[n+10]?=some z/\(z≠90\/(c.take (n+10)).all Ny=false))):aC 172 [.d (By false c),iv n] (.tup [tmA .z,bv false]):=by
 rcases h with h|⟨Q,z,A,h⟩
 ·have g:((c.length:Int) !=(n:Int)+11)=true:=by rw[Av];omega
  refine acY 89 [191,1000013] Tryz.func172 rfl rfl fun _ _ _=> ?_
  (repeat'((conv=>whnf);first|refine zP ?_|refine zN ?_|refine Ej ?_|refine Ee ?_|(with_reducible refine NInt.i64 ?_)|exact zE))
 have g:((c.length:Int) !=(n:Int)+11)=false:=by rw[B1];omega
 have H:=z.toNat_lt
 by_cases q:z=90
 rotate_left
 ·have j:((z.toNat:Int) !=90)=true:=by
   rw[Av]
   intro e
   exact q (B8.1 (show z.toNat=90 by omega))
  refine acY 89 [191,1000013] Tryz.func172 rfl rfl fun _ _ _=> ?_
  (repeat'((conv=>whnf);first|refine zP ?_|refine zN ?_|refine Ej ?_|refine Ee ?_|refine NIdx.bytes A ?_|(with_reducible refine NInt.i64 ?_)|exact zE))
 have v:=h.resolve_left fun k=>k q
 subst q
 generalize w:c.take (n+10)=d at v
 have I:d.length=n+10:=by rw[<-w,Ec];omega
 refine acY 89 [191,1000013] Tryz.func172 rfl rfl fun _ _ _=> ?_
 (repeat'((conv=>whnf);first|refine zP ?_|refine zN ?_|refine Ej ?_|refine Ee ?_|refine NIdx.bytes A ?_|(refine NSl.bytes 0 (n+10) d w ?_)|(with_reducible refine NInt.i64 ?_)));(all_goals(conv=>whnf))
 refine Fh (fun i:Nat=>i<=d.length/\(d.drop i).all Ny=false) (fun i=>d.length-i) (fun i=>⟨[(1,iv n),(2,.ptr 2 0),(4,.ptr 4 0),(32,.d (By false d)),(33,iv d.length),(34,iv i)],[(2,[.d (By false c)]),(4,tmC .z)],[]⟩) 0 ⟨Nat.zero_le _,v⟩ leQ ?_
 rintro i ⟨J,l⟩
 have u:i<d.length:=by
  rcases Nat.lt_or_eq_of_le J with h|h
  ·exact h
  ·rw[h,List.drop_length] at l;cases l
 obtain⟨x,s⟩:∃p,d[i]?=some p:=⟨_,Ev u⟩
 have M:decide ((i:Int)<(d.length:Int))=true:=Aq Aa
 have r:d.drop i=x::d.drop (i+1):=by
  obtain⟨B,K⟩:=Ew.1 s
  rw[<-K];exact A5 B
 rw[r,List.all_cons,C6] at l
 have N:=x.toNat_lt
 by_cases f:Ny x=true
 ·have F:=Fr f
  have j:decide ((x.toNat:Int)<48)=false:=Ao Aa
  have E:decide ((x.toNat:Int)>57)=false:=Ao Aa
  (repeat'((conv=>whnf);first|refine zP ?_|refine zN ?_|refine Ej ?_|refine Ee ?_|refine NIdx.bytes s ?_|(with_reducible refine NInt.i64 ?_)));(all_goals(conv=>whnf))
  refine⟨i+1,⟨Aa,l.resolve_left (by rw[f];simp)⟩,Aa,?_⟩
  exact leQ
 ·have j:decide ((x.toNat:Int)<48)=true\/(decide ((x.toNat:Int)<48)=false/\decide ((x.toNat:Int)>57)=true):=by
   unfold Ny at f
   simp only[Et,A3,Ar] at f|-;omega
  rcases j with j|⟨j,E⟩
  all_goals
   (repeat'((conv=>whnf);first|refine zP ?_|refine zN ?_|refine Ej ?_|refine Ee ?_|refine NIdx.bytes s ?_|exact zE))
def raU:List UInt8->Tm×Bool
 |[a1,b1,c1,d1,e1,f1,g1,h1,i1,j1,k1,l1,z1]=>if(z1==90&&[a1,b1,c1,d1,e1,f1,g1,h1,i1,j1,k1,l1].all Ny)=true then(⟨Rk (dgN a1 b1),dgN c1 d1,dgN e1 f1,dgN g1 h1,dgN i1 j1,dgN k1 l1⟩,Tm.v ⟨Rk (dgN a1 b1),dgN c1 d1,dgN e1 f1,dgN g1 h1,dgN i1 j1,dgN k1 l1⟩) else(.z,false)
 |_=>(.z,false)
theorem YN (c:List UInt8):qE c=if(raU c).2=true then some (raU c).1 else none:=by
 unfold qE raU
 split
 ·rename_i r s v q j g l d e u i w f
  simp only
  unfold ifV
  generalize (f==90&&[r,s,v,q,j,g,l,d,e,u,i,w].all Ny)=p
  cases p<;>simp
 ·rename_i h
  split
  ·exact(h _ _ _ _ _ _ _ _ _ _ _ _ _ rfl).elim
  ·rfl
theorem gq {d c u f v l s e j w q r:UInt8} (h:[d,c,u,f,v,l,s,e,j,w,q,r].all Ny=true):aC 172 [.d (By false [d,c,u,f,v,l,s,e,j,w,q,r,90]),iv 2] (.tup [tmA ⟨Rk (dgN d c),dgN u f,dgN v l,dgN s e,dgN j w,dgN q r⟩,bv (Tm.v ⟨Rk (dgN d c),dgN u f,dgN v l,dgN s e,dgN j w,dgN q r⟩)]):=by
 have z:∀i (x:UInt8),([d,c,u,f,v,l,s,e,j,w,q,r]:List UInt8)[i]?=some x->48<=x.toNat/\x.toNat<=57:=fun i x V=>Fr (B0.1 h x (F9 V))
 have hd:∀{x y:UInt8},Ny x=true->Ny y=true->dgN x y<=99:=fun e h2=>Hi e h2
 simp only[List.all_cons,List.all_nil,Et,Di] at h
 obtain⟨M,E,N,O,K,L,Q,J,I,H,B,F⟩:=h
 have n0:=Hi M E
 have n2:=Hi N O
 have n4:=Hi K L
 have n6:=Hi Q J
 have n8:=Hi I H
 have n10:=Hi B F
 replace M:=Fr M
 replace E:=Fr E
 replace N:=Fr N
 replace O:=Fr O
 replace K:=Fr K
 replace L:=Fr L
 replace Q:=Fr Q
 replace J:=Fr J
 replace I:=Fr I
 replace H:=Fr H
 replace B:=Fr B
 replace F:=Fr F
 have hV:=Qv ⟨Rk (dgN d c),dgN u f,dgN v l,dgN s e,dgN j w,dgN q r⟩ ⟨Bi (BE n0).2.1 Aa,by simp only;omega⟩
 have gl:(((([d,c,u,f,v,l,s,e,j,w,q,r,90]:List UInt8).length:Nat):Int) !=13)=false:=rfl
 have W:(decide (((dgN d c:Nat):Int)+1900<1950)=true/\Rk (dgN d c)=dgN d c+2000)\/(decide (((Rk (dgN d c):Nat):Int)<1950)=false/\Rk (dgN d c)=dgN d c+1900):=by
  unfold Rk
  by_cases h:dgN d c+1900<1950
  ·exact .inl ⟨Aq Aa,Aj h⟩
  ·refine .inr ⟨Ao ?_,Ai h⟩
   rw[Ai h];omega
 have U:(decide (((dgN d c:Nat):Int)+1900<1950)=true/\∀{A:Int->Prop},A ((Rk (dgN d c):Nat):Int)->NInt (IntKind.i64.wrap (((dgN d c:Nat):Int)+1900+100)) A)\/(decide (((Rk (dgN d c):Nat):Int)<1950)=false/\∀{A:Int->Prop},A ((Rk (dgN d c):Nat):Int)->NInt (IntKind.i64.wrap (((dgN d c:Nat):Int)+1900)) A):=by
  rcases W with⟨R,eY⟩|⟨R,eY⟩
  ·exact .inl ⟨R,fun k=>NInt.as _ (by rw[Bl _ Aa];omega) k⟩
  ·exact .inr ⟨R,fun k=>NInt.as _ (by rw[Bl _ Aa];omega) k⟩
 clear W
 rcases U with⟨R,X⟩|⟨R,X⟩
 all_goals
  refine acY 89 [191,1000013] Tryz.func172 rfl rfl fun _ _ _=> ?_
  (repeat'((conv=>whnf);first|refine Ee ?_|(refine Hf _ ?_ rfl (Ay rfl))|refine nG (12) ?_|(with_reducible refine NInt.i64 ?_)));(all_goals(conv=>whnf))
  refine Fh (fun i:Nat=>i<=12) (fun i=>12-i) (fun i=>⟨[(1,iv 2),(2,.ptr 2 0),(4,.ptr 4 0),(32,.d (By false [d,c,u,f,v,l,s,e,j,w,q,r])),(33,iv 12),(34,iv i)],[(2,[.d (By false [d,c,u,f,v,l,s,e,j,w,q,r,90])]),(4,tmC .z)],[]⟩) 0 Aa leQ ?_
  intro i Y
  by_cases T:i<12
  ·obtain⟨x,Z⟩:∃p,([d,c,u,f,v,l,s,e,j,w,q,r]:List UInt8)[i]?=some p:=⟨_,Ev T⟩
   have V:=z i x Z
   have g:decide ((i:Int)<12)=true:=Aq Aa
   have ga:decide ((x.toNat:Int)<48)=false:=Ao Aa
   have gb:decide ((x.toNat:Int)>57)=false:=Ao Aa
   (repeat'((conv=>whnf);first|refine zP ?_|refine zN ?_|refine Ej ?_|refine Ee ?_|refine NIdx.bytes Z ?_|(with_reducible refine NInt.i64 ?_)));(all_goals(conv=>whnf))
   refine⟨i+1,Aa,Aa,?_⟩
   exact leQ
  ·have g:decide ((i:Int)<12)=false:=Ao Aa
   clear z Y T
   (repeat'((conv=>whnf);first|refine zP ?_|refine zN ?_|refine Ej ?_|refine Ee ?_|refine Jn 100 21 [191,1000013] Tryz.func191 rfl rfl rfl rfl rfl fun gh=> ?_|(refine Hf _ ?_ rfl (Ay rfl))|(with_reducible refine W2 ?_)|(with_reducible refine X ?_)|(refine Fx (dA 75 rfl rfl (ltN rfl) (Eg.ty rfl) (Eg.ty rfl) rfl rfl Ae Ae rfl rfl) ?_)|refine Cs (aR rfl rfl (ltN rfl) (Eg.ty rfl).u rfl) ?_|(with_reducible refine NInt.i64 ?_)|(with_reducible refine NInt.u8 ?_)|refine zF ?_));(all_goals(conv=>whnf))
   refine Fh (fun i:Nat=>i<=5) (fun i=>5-i) (fun i=>⟨[(4,.ptr 4 0),(9,(.cl 191 [] [.ptr 8 0,.ptr 2 0])),(10,.ptr 10 0),(75,.pk 75 0 5 1),(76,iv 5),(77,iv i)],[(2,[.d (By false [d,c,u,f,v,l,s,e,j,w,q,r,90])]),(4,tmC .z),(8,[iv (2+2*i:Nat)]),(10,iv (Rk (dgN d c):Nat)::(([iv (dgN u f:Nat),iv (dgN v l:Nat),iv (dgN s e:Nat),iv (dgN j w:Nat),iv (dgN q r:Nat)]:List AV).take i++([iv 0,iv 0,iv 0,iv 0,iv 0]:List AV).drop i)),(75,[.ptr 10 1,.ptr 10 2,.ptr 10 3,.ptr 10 4,.ptr 10 5])],[]⟩) 0 Aa leQ ?_
   intro i Y
   obtain rfl|rfl|rfl|rfl|rfl|rfl:i=5\/i=0\/i=1\/i=2\/i=3\/i=4:=Aa
   all_goals((repeat'((conv=>whnf);first|refine Ej ?_|refine Ee ?_|refine Jn 100 21 [191,1000013] Tryz.func191 rfl rfl rfl rfl rfl fun gh=> ?_|(refine Hf _ ?_ rfl (Ay rfl))|(with_reducible refine W2 ?_)|refine Cs (aQ _ rfl rfl (ltN rfl) (Eg.ty rfl).u (Eg.ty rfl) rfl rfl rfl (Ay rfl)) ?_|refine Cs (Eb rfl rfl (ltN rfl) rfl) ?_|refine Al hV rfl ?_|(with_reducible refine NInt.i64 ?_)|(with_reducible refine NInt.u8 ?_)|refine zF ?_));(all_goals(conv=>whnf)))
   ·exact zE
   all_goals
    first|refine⟨1,Ay rfl,Ay rfl,?_⟩|refine⟨2,Ay rfl,Ay rfl,?_⟩|refine⟨3,Ay rfl,Ay rfl,?_⟩|refine⟨4,Ay rfl,Ay rfl,?_⟩|refine⟨5,Ay rfl,Ay rfl,?_⟩
    exact leQ
def raG:List UInt8->Tm×Bool
 |[a1,b1,c1,d1,e1,f1,g1,h1,i1,j1,k1,l1,m1,n1,z1]=>if(z1==90&&[a1,b1,c1,d1,e1,f1,g1,h1,i1,j1,k1,l1,m1,n1].all Ny)=true then(⟨(100*dgN a1 b1+dgN c1 d1),dgN e1 f1,dgN g1 h1,dgN i1 j1,dgN k1 l1,dgN m1 n1⟩,Tm.v ⟨(100*dgN a1 b1+dgN c1 d1),dgN e1 f1,dgN g1 h1,dgN i1 j1,dgN k1 l1,dgN m1 n1⟩) else(.z,false)
 |_=>(.z,false)
theorem YO (c:List UInt8):dH c=if(raG c).2=true then some (raG c).1 else none:=by
 unfold dH raG
 split
 ·rename_i w j l i u r g d q z s A h v e
  simp only
  unfold ifV
  generalize (e==90&&[w,j,l,i,u,r,g,d,q,z,s,A,h,v].all Ny)=p
  cases p<;>simp
 ·rename_i f
  split
  ·exact(f _ _ _ _ _ _ _ _ _ _ _ _ _ _ _ rfl).elim
  ·rfl
def ckS (c:List UInt8) (y z:Nat) (m:Nat):AS:=⟨pk m 0 (52,.ptr 10 0) (pk m 1 (53,iv y) (pk m 2 (54,iv (100*y:Nat)) (pk m 3 (55,(.cl 191 [] [.ptr 8 0,.ptr 2 0])) (pk m 4 (56,iv z) (pk m 5 (57,iv (100*y+z:Nat)) (pk m 6 (58,.ptr 10 0) [(4,.ptr 4 0),(9,(.cl 191 [] [.ptr 8 0,.ptr 2 0])),(10,.ptr 10 0)])))))),[(2,[.d (By false c)]),(4,tmC .z),(8,bif m.testBit 4 then [iv 4] else [iv 2]),(10,bif m.testBit 7 then [iv (100*y+z:Nat),iv 0,iv 0,iv 0,iv 0,iv 0] else [iv y,iv 0,iv 0,iv 0,iv 0,iv 0])],[]⟩
theorem gr {d c f e z r w j q B s v l u:UInt8} (h:[d,c,f,e,z,r,w,j,q,B,s,v,l,u].all Ny=true):aC 172 [.d (By false [d,c,f,e,z,r,w,j,q,B,s,v,l,u,90]),iv 4] (.tup [tmA ⟨(100*dgN d c+dgN f e),dgN z r,dgN w j,dgN q B,dgN s v,dgN l u⟩,bv (Tm.v ⟨(100*dgN d c+dgN f e),dgN z r,dgN w j,dgN q B,dgN s v,dgN l u⟩)]):=by
 have E:∀i (x:UInt8),([d,c,f,e,z,r,w,j,q,B,s,v,l,u]:List UInt8)[i]?=some x->48<=x.toNat/\x.toNat<=57:=fun i x X=>Fr (B0.1 h x (F9 X))
 have hd:∀{x y:UInt8},Ny x=true->Ny y=true->dgN x y<=99:=fun j h2=>Hi j h2
 simp only[List.all_cons,List.all_nil,Et,Di] at h
 obtain⟨R,H,T,U,O,Q,V,M,L,J,F,I,N,K⟩:=h
 have n0:=Hi R H
 have n2:=Hi T U
 have n4:=Hi O Q
 have n6:=Hi V M
 have n8:=Hi L J
 have n10:=Hi F I
 have n12:=Hi N K
 replace R:=Fr R
 replace H:=Fr H
 replace T:=Fr T
 replace U:=Fr U
 replace O:=Fr O
 replace Q:=Fr Q
 replace V:=Fr V
 replace M:=Fr M
 replace L:=Fr L
 replace J:=Fr J
 replace F:=Fr F
 replace I:=Fr I
 replace N:=Fr N
 replace K:=Fr K
 have hV:=Qv ⟨(100*dgN d c+dgN f e),dgN z r,dgN w j,dgN q B,dgN s v,dgN l u⟩ ⟨by simp only;omega,by simp only;omega⟩
 have gl:(((([d,c,f,e,z,r,w,j,q,B,s,v,l,u,90]:List UInt8).length:Nat):Int) !=15)=false:=rfl
 have hm:∀{A:Int->Prop},A ((100*dgN d c:Nat):Int)->NInt (IntKind.i64.wrap (100*((dgN d c:Nat):Int))) A:=fun k=>NInt.as _ (by rw[Bl _ Aa];omega) k
 have hs:∀{A:Int->Prop},A ((100*dgN d c+dgN f e:Nat):Int)->NInt (IntKind.i64.wrap (((100*dgN d c:Nat):Int)+((dgN f e:Nat):Int))) A:=fun k=>NInt.as _ (by rw[Bl _ Aa];omega) k
 refine acY 89 [191,1000013] Tryz.func172 rfl rfl fun _ _ _=> ?_
 (repeat'((conv=>whnf);first|refine Ee ?_|(refine Hf _ ?_ rfl (Ay rfl))|refine nG (14) ?_|(with_reducible refine NInt.i64 ?_)));(all_goals(conv=>whnf))
 refine Fh (fun i:Nat=>i<=14) (fun i=>14-i) (fun i=>⟨[(1,iv 4),(2,.ptr 2 0),(4,.ptr 4 0),(32,.d (By false [d,c,f,e,z,r,w,j,q,B,s,v,l,u])),(33,iv 14),(34,iv i)],[(2,[.d (By false [d,c,f,e,z,r,w,j,q,B,s,v,l,u,90])]),(4,tmC .z)],[]⟩) 0 Aa leQ ?_
 intro i Z
 by_cases W:i<14
 ·obtain⟨x,hg⟩:∃p,([d,c,f,e,z,r,w,j,q,B,s,v,l,u]:List UInt8)[i]?=some p:=⟨_,Ev W⟩
  have X:=E i x hg
  have g:decide ((i:Int)<14)=true:=Aq Aa
  have ga:decide ((x.toNat:Int)<48)=false:=Ao Aa
  have gb:decide ((x.toNat:Int)>57)=false:=Ao Aa
  (repeat'((conv=>whnf);first|refine zP ?_|refine zN ?_|refine Ej ?_|refine Ee ?_|refine NIdx.bytes hg ?_|(with_reducible refine NInt.i64 ?_)));(all_goals(conv=>whnf))
  refine⟨i+1,Aa,Aa,?_⟩
  exact leQ
 ·have g:decide ((i:Int)<14)=false:=Ao Aa
  clear E Z W
  (repeat'((conv=>whnf);first|refine zP ?_|refine zN ?_|refine Ej ?_|refine Ee ?_|refine Jn 100 21 [191,1000013] Tryz.func191 rfl rfl rfl rfl rfl fun Y=> ?_|(refine Hf _ ?_ rfl (Ay rfl))|(with_reducible refine W2 ?_)|(with_reducible refine NInt.i64 ?_)|(with_reducible refine NInt.u8 ?_)|refine zF ?_));(all_goals(conv=>whnf))
  refine Oh (ckS [d,c,f,e,z,r,w,j,q,B,s,v,l,u,90] (dgN d c) (dgN f e)) (P6 [191,1000013]) mixed leQ (by decide+kernel) Ac ?_ ?_
  rotate_left
  ·(repeat'((conv=>whnf);first|(refine Fx (dA 75 rfl rfl (ltN rfl) (Eg.ty rfl) (Eg.ty rfl) rfl rfl Ae Ae rfl rfl) ?_)|refine Cs (aR rfl rfl (ltN rfl) (Eg.ty rfl).u rfl) ?_));(all_goals(conv=>whnf))
   refine Fh (fun i:Nat=>i<=5) (fun i=>5-i) (fun i=>⟨[(4,.ptr 4 0),(9,(.cl 191 [] [.ptr 8 0,.ptr 2 0])),(10,.ptr 10 0),(75,.pk 75 0 5 1),(76,iv 5),(77,iv i)],[(2,[.d (By false [d,c,f,e,z,r,w,j,q,B,s,v,l,u,90])]),(4,tmC .z),(8,[iv (4+2*i:Nat)]),(10,iv ((100*dgN d c+dgN f e):Nat)::(([iv (dgN z r:Nat),iv (dgN w j:Nat),iv (dgN q B:Nat),iv (dgN s v:Nat),iv (dgN l u:Nat)]:List AV).take i++([iv 0,iv 0,iv 0,iv 0,iv 0]:List AV).drop i)),(75,[.ptr 10 1,.ptr 10 2,.ptr 10 3,.ptr 10 4,.ptr 10 5])],[]⟩) 0 Aa leQ ?_
   intro i Z
   obtain rfl|rfl|rfl|rfl|rfl|rfl:i=5\/i=0\/i=1\/i=2\/i=3\/i=4:=Aa
   all_goals((repeat'((conv=>whnf);first|refine Ej ?_|refine Ee ?_|refine Jn 100 21 [191,1000013] Tryz.func191 rfl rfl rfl rfl rfl fun Y=> ?_|(refine Hf _ ?_ rfl (Ay rfl))|(with_reducible refine W2 ?_)|refine Cs (aQ _ rfl rfl (ltN rfl) (Eg.ty rfl).u (Eg.ty rfl) rfl rfl rfl (Ay rfl)) ?_|refine Cs (Eb rfl rfl (ltN rfl) rfl) ?_|refine Al hV rfl ?_|(with_reducible refine NInt.i64 ?_)|(with_reducible refine NInt.u8 ?_)|refine zF ?_));(all_goals(conv=>whnf)))
   ·exact zE
   all_goals
    first|refine⟨1,Ay rfl,Ay rfl,?_⟩|refine⟨2,Ay rfl,Ay rfl,?_⟩|refine⟨3,Ay rfl,Ay rfl,?_⟩|refine⟨4,Ay rfl,Ay rfl,?_⟩|refine⟨5,Ay rfl,Ay rfl,?_⟩
    exact leQ
  (repeat'((conv=>whnf);first|exact trivial|refine A1 ?_ ?_))
  all_goals(repeat'((conv=>whnf);first|refine Jn 100 21 [191,1000013] Tryz.func191 rfl rfl rfl rfl rfl fun Y=> ?_|(refine Hf _ ?_ rfl (Ay rfl))|(with_reducible refine W2 ?_)|(with_reducible refine hm ?_)|(with_reducible refine hs ?_)|(with_reducible refine NInt.i64 ?_)|(with_reducible refine NInt.u8 ?_)|refine zF ?_));(all_goals(conv=>whnf))
  all_goals exact J6
theorem YP (c:List UInt8) (q:c.length<=100000000):aC 172 [.d (By false c),iv 2] (.tup [tmA (raU c).1,bv (raU c).2]):=by
 unfold raU
 split
 ·rename_i v i j g u r f e l z s A d
  by_cases h:(d==90&&[v,i,j,g,u,r,f,e,l,z,s,A].all Ny)=true
  ·rw[Aj h]
   rw[Et,A9] at h
   obtain⟨rfl,h⟩:=h
   exact gq h
  ·rw[Ai h]
   refine BN 2 _ Aa q (.inr ⟨rfl,d,rfl,?_⟩)
   rw[Et,not_and,A9] at h
   by_cases w:d=90
   ·exact .inr (Dh.2 (h w))
   ·exact .inl w
 ·rename_i B
  refine BN 2 c Aa q (.inl fun E=> ?_)
  match c,E with
  |[v,i,j,g,u,r,f,e,l,z,s,A,d],_=>exact B _ _ _ _ _ _ _ _ _ _ _ _ _ rfl
theorem QL (c:List UInt8) (e:c.length<=100000000):aC 144 [.d (By false c)] (.tup [tmA ((qE c).getD .z),iv (if(qE c).isSome=true then 0 else 6)]):=by
 have d:=YP c e
 rw[YN]
 generalize raU c=p at d|-
 obtain⟨t,v⟩:=p
 simp only at d|-
 cases v
 all_goals
  refine acQ 14 Tryz.func144 rfl rfl fun _ _ _=> ?_
  (repeat'((conv=>whnf);first|refine Ej ?_|refine Ee ?_|refine Al d gvQ ?_|exact zE))
theorem YQ (c:List UInt8) (r:c.length<=100000000):aC 172 [.d (By false c),iv 4] (.tup [tmA (raG c).1,bv (raG c).2]):=by
 unfold raG
 split
 ·rename_i z j l i v s f e q B u E g w d
  by_cases h:(d==90&&[z,j,l,i,v,s,f,e,q,B,u,E,g,w].all Ny)=true
  ·rw[Aj h]
   rw[Et,A9] at h
   obtain⟨rfl,h⟩:=h
   exact gr h
  ·rw[Ai h]
   refine BN 4 _ Aa r (.inr ⟨rfl,d,rfl,?_⟩)
   rw[Et,not_and,A9] at h
   by_cases A:d=90
   ·exact .inr (Dh.2 (h A))
   ·exact .inl A
 ·rename_i F
  refine BN 4 c Aa r (.inl fun H=> ?_)
  match c,H with
  |[z,j,l,i,v,s,f,e,q,B,u,E,g,w,d],_=>exact F _ _ _ _ _ _ _ _ _ _ _ _ _ _ _ rfl
theorem qQ (c:List UInt8) (e:c.length<=100000000):aC 145 [.d (By false c)] (.tup [tmA ((dH c).getD .z),iv (if(dH c).isSome=true then 0 else 6)]):=by
 have d:=YQ c e
 rw[YO]
 generalize raG c=p at d|-
 obtain⟨t,v⟩:=p
 simp only at d|-
 cases v
 all_goals
  refine acQ 14 Tryz.func145 rfl rfl fun _ _ _=> ?_
  (repeat'((conv=>whnf);first|refine Ej ?_|refine Ee ?_|refine Al d gvQ ?_|exact zE))
section
variable {P:Program} {C:Cx} {o:Oper} {σ:AS} {t:Nat} {k k':IntKind} {m n:Int} {x y:Operand} {ats:Array TypeId}
theorem QM (v:Int) (i:(if n<m then n else m)=v) (c:o.op= .call {callee:= .builtin .min,args:=#[x,y],argTypes:=ats}) (h:o.dst=some t) (e:t<C.N) (f:σ.eval x=some (.d (.v (.int k m)))) (g:σ.eval y=some (.d (.v (.int k' n)))):LA P C o ⟨[],some (t,.d (.v (.int k v))),none,none,[],[],[],[]⟩ σ:=fun _ d _ _=>
 bL v i c h e (tr d (by rw[c];simp[Op.operands,Call.operands]) f) (tr d (by rw[c];simp[Op.operands,Call.operands]) g)
end
theorem T2 (t:Tm) (d:t.bd):aC 114 [tmA t] (bv t.ok):=by
 have c:=Qv t d
 have e:t.ok=(t.v&&decide ((t.y:Int)>=1950)):=by
  unfold Tm.ok
  congr 1
  exact decide_eq_decide.2 Aa
 rw[e]
 generalize t.v=v at c
 cases v
 all_goals
  refine acQ 10 Tryz.func114 rfl rfl fun _ _ _=> ?_
  (repeat'((conv=>whnf);first|refine Ej ?_|refine Ee ?_|refine Al c rfl ?_|exact zE))
theorem H6 (h:p:=by first|rfl|(simp only[D8,AV.ren,AV.give,D.un,Ef,D7,D6,Ap,Am,Ak,Ea,Ed,Ep,Eo,Fy,E8];first|done|rfl)):p:=h
theorem Ya (t:Tm) (f:t.sm) (c:t.ok=true):aC 92 [tmA t] (.tup [Hp 0 5 (tmE t),iv 0]):=by
 have i:=T2 t ⟨by have:=f.1;omega,by have:=f.2.1;omega⟩
 rw[c] at i
 unfold Tm.ok at c
 rw[Et,A3] at c
 unfold tmE
 by_cases h:t.y<=2049
 ·have g:decide ((t.y:Int)>2049)=false:=Ao Aa
  have d:=YL t f c.1 c.2 h
  have e:=J1 0 23 false (dF t) Aa Aa (by show 13<=_;omega)
  rw[Aj h]
  generalize dF t=q at d e
  refine acQ 29 Tryz.func92 rfl rfl fun _ _ _=> ?_
  (repeat'((conv=>whnf);first|refine zP ?_|refine zN ?_|refine Ej ?_|refine Ee ?_|refine Al i rfl ?_|refine Al d rfl ?_|refine Al e H6 ?_|exact zE))
 ·have g:decide ((t.y:Int)>2049)=true:=Aq Aa
  have d:=YM t f c.1
  have e:=J1 0 24 false (dG t) Aa Aa (by show 15<=_;omega)
  rw[Ai h]
  generalize dG t=q at d e
  refine acQ 29 Tryz.func92 rfl rfl fun _ _ _=> ?_
  (repeat'((conv=>whnf);first|refine zP ?_|refine zN ?_|refine Ej ?_|refine Ee ?_|refine Al i rfl ?_|refine Al d rfl ?_|refine Al e H6 ?_|exact zE))
def tmR (r:Option Tm×Nat×Nat):AV:= .tup [tmA (r.1.getD .z),erA r.2.1 r.2.2]
theorem Yb (b:List UInt8) (H:b.length<=100000000):aC 101 [.d (By false b)] (tmR (tmO b)):=by
 have i:=Hj b Aa
 have u:=Fa b
 unfold tmO
 generalize Em b=o at i u|-
 obtain⟨x,c,f⟩:=o
 simp only at u|-
 by_cases v:c≠0
 ·rw[Aj v]
  have g:((c:Int) !=0)=true:=by rw[Av];omega
  refine acQ 51 Tryz.func101 rfl rfl fun _ _ _=> ?_
  (repeat'((conv=>whnf);first|refine zP ?_|refine Al i H6 ?_|refine zF ?_|exact zE))
 obtain rfl:c=0:=As.1 v
 obtain⟨-,-,E,-,rfl⟩:=u.1 rfl
 have F:=u.2.2.2.2.2.1
 rw[Ai v]
 have e:=Fo x 0 23 false
 have l:=Fo x 0 24 false
 have j:((b.drop x.body).take (x.stop-x.body)).length<=100000000:=by rw[Ec,Eh];omega
 have s:=QL _ j
 have h:=qQ _ j
 have B:∀q,(b.drop x.body).take (x.stop-x.body)=q->q.length<=100000000:=fun q d=>by rw[<-d];exact j
 obtain⟨q,d⟩:∃q,(b.drop x.body).take (x.stop-x.body)=q:=⟨_,rfl⟩
 rw[d] at s h|-
 cases w:x.isB 0 23 false
 ·rw[w] at e
  rw[Ai Ab]
  cases A:x.isB 0 24 false
  ·rw[A] at l
   rw[Ai Ab]
   refine acQ 51 Tryz.func101 rfl rfl fun _ _ _=> ?_
   (repeat'((conv=>whnf);first|refine Ej ?_|refine Ee ?_|refine Al i H6 ?_|refine Al e rfl ?_|refine Al l rfl ?_|(refine NSl.bytes x.body x.stop q d ?_)|refine zF ?_|exact zE))
  ·rw[A] at l
   rw[Aj rfl]
   cases r:dH q with
   |none=>
    rw[r] at h
    refine acQ 51 Tryz.func101 rfl rfl fun _ _ _=> ?_
    (repeat'((conv=>whnf);first|refine Ej ?_|refine Ee ?_|refine Al i H6 ?_|refine Al e rfl ?_|refine Al l rfl ?_|(refine NSl.bytes x.body x.stop q d ?_)|refine Al h H6 ?_|refine zF ?_|exact zE))
   |some t=>
    rw[r] at h
    have h:aC 145 [.d (By false q)] (.tup [tmA t,iv 0]):=h
    simp only
    by_cases z:t.y<=2049
    ·rw[Aj z]
     have g:decide ((t.y:Int)<=2049)=true:=Aq Aa
     refine acQ 51 Tryz.func101 rfl rfl fun _ _ _=> ?_
     (repeat'((conv=>whnf);first|refine zP ?_|refine zN ?_|refine Ej ?_|refine Ee ?_|refine Al i H6 ?_|refine Al e rfl ?_|refine Al l rfl ?_|(refine NSl.bytes x.body x.stop q d ?_)|refine Al h H6 ?_|refine zF ?_|exact zE))
    ·rw[Ai z]
     have g:decide ((t.y:Int)<=2049)=false:=Ao Aa
     refine acQ 51 Tryz.func101 rfl rfl fun _ _ _=> ?_
     (repeat'((conv=>whnf);first|refine zP ?_|refine zN ?_|refine Ej ?_|refine Ee ?_|refine Al i H6 ?_|refine Al e rfl ?_|refine Al l rfl ?_|(refine NSl.bytes x.body x.stop q d ?_)|refine Al h H6 ?_|refine zF ?_|exact zE))
 ·rw[w] at e
  rw[Aj rfl]
  cases r:qE q with
  |none=>
   rw[r] at s
   refine acQ 51 Tryz.func101 rfl rfl fun _ _ _=> ?_
   (repeat'((conv=>whnf);first|refine Ej ?_|refine Ee ?_|refine Al i H6 ?_|refine Al e rfl ?_|(refine NSl.bytes x.body x.stop q d ?_)|refine Al s H6 ?_|refine zF ?_|exact zE))
  |some t=>
   rw[r] at s
   refine acQ 51 Tryz.func101 rfl rfl fun _ _ _=> ?_
   (repeat'((conv=>whnf);first|refine Ej ?_|refine Ee ?_|refine Al i H6 ?_|refine Al e rfl ?_|(refine NSl.bytes x.body x.stop q d ?_)|refine Al s H6 ?_|refine zF ?_|exact zE))
theorem Zw (b:List UInt8):(tmO b).2.2<=b.length/\(tmO b).2.1<=6:=by
 have c:=Fa b
 have d:=c.2.2.1
 have e:(Em b).x.body<=b.length:=Bi c.2.2.2.2.2.2 c.2.2.2.2.2.1
 have f:=c.2.1
 unfold tmO
 repeat' split
 all_goals first|exact⟨d,by simp only;omega⟩|exact⟨e,by simp only;omega⟩|exact⟨Nat.zero_le _,Nat.zero_le _⟩
def vpR (r:(Tm×Tm)×Nat×Nat):AV:= .tup [tmA r.1.1,tmA r.1.2,erA r.2.1 r.2.2]
theorem iC (b:List UInt8) (Z:b.length<=100000000):aC 57 [.d (By false b)] (vpR (Il b)):=by
 have s:=Fc b 0 16 Aa
 have j:=fun x=>Ez (b:=b) (c:=0) (n:=16) (x:=x)
 unfold Il paQ
 generalize Dn b 0 16=R at s j|-
 obtain⟨l,c,f⟩:=R
 simp only at j|-
 by_cases v:c≠0
 ·rw[lrA,Aj v] at s
  rw[Aj v]
  have g:((c:Int) !=0)=true:=by rw[Av];omega
  refine acQ 78 Tryz.func57 rfl rfl fun _ _ _=> ?_
  (repeat'((conv=>whnf);first|refine zP ?_|refine Al s H6 ?_|refine zF ?_|exact zE))
 rw[lrA,Ai v] at s
 rw[Ai v]
 have i:l.length≠2->aC 57 [.d (By false b)] (vpR ((.z,.z),6,0)):=by
  intro W
  have g:((l.length:Int) !=2)=true:=by rw[Av];omega
  refine acQ 78 Tryz.func57 rfl rfl fun _ _ _=> ?_
  (repeat'((conv=>whnf);first|refine zP ?_|refine zN ?_|refine Ej ?_|refine Ee ?_|refine Al s H6 ?_|refine zF ?_|exact zE))
 match l with
 |[]=>exact i Ab
 |[_]=>exact i Ab
 |_::_::_::_=>exact i Ab
 |[x,y]=>
  clear i
  obtain⟨X,U,T⟩:=j x Ab
  obtain⟨V,y2,Y⟩:=j y Ab
  have F:([x,y]:List El)[0]?=some x:=rfl
  have J:([x,y]:List El)[1]?=some y:=rfl
  have Q:(elO b x).length<=b.length:=Kr b x
  have O:(elO b y).length<=b.length:=Kr b y
  have u:=Yb (elO b x) Aa
  have w:=Yb (elO b y) Aa
  have L:=Zw (elO b x)
  have B:=Zw (elO b y)
  have A:=fun r=>dJ (b:=elO b x) (r:=r)
  have cY:=fun r=>dJ (b:=elO b y) (r:=r)
  have E:=fun t r=>Zu (b:=elO b x) (t:=t) (r:=r)
  have H:=fun t r=>Zu (b:=elO b y) (t:=t) (r:=r)
  have K:∀n:Nat,(if(b.length:Int)<(n:Int) then(b.length:Int) else(n:Int))=((min n b.length:Nat):Int):=fun n=>by split<;>omega
  simp only
  unfold paX
  generalize tmO (elO b x)=p at u L A E|-
  generalize tmO (elO b y)=q at w B cY H|-
  obtain⟨z,e⟩:∃d,elO b x=d:=⟨_,rfl⟩
  obtain⟨I,h⟩:∃d,elO b y=d:=⟨_,rfl⟩
  rw[e] at u Q L
  rw[h] at w O B
  unfold elO at e h
  match p with
  |(none,c,o)=>
   have M:c≠0:=A (c,o) rfl
   have N:((c:Int)==0)=false:=by rw[An];omega
   have gd:((c:Int) !=0)=true:=by rw[Av];omega
   refine acQ 78 Tryz.func57 rfl rfl fun _ _ _=> ?_
   (repeat'((conv=>whnf);first|refine zP ?_|refine zN ?_|refine Ej ?_|refine Ee ?_|refine Al s H6 ?_|refine NIdx.tab (fun _=>rfl) F ?_|(refine NSl.bytes x.at' x.stop z e ?_)|refine Al u H6 ?_|refine NLa.mk ⟨_,QM _ (K o) rfl rfl (ltN rfl) rfl rfl,?_⟩|refine zF ?_|exact zE))
  |(some f,r1)=>
   obtain⟨-,-,-,rfl⟩:=E f r1 rfl
   clear E A
   match q with
   |(none,c,o)=>
    have M:c≠0:=cY (c,o) rfl
    have N:((c:Int)==0)=false:=by rw[An];omega
    have gd:((c:Int) !=0)=true:=by rw[Av];omega
    simp only at B
    refine acQ 78 Tryz.func57 rfl rfl fun _ _ _=> ?_
    (repeat'((conv=>whnf);first|refine zP ?_|refine zN ?_|refine Ej ?_|refine Ee ?_|refine Al s H6 ?_|refine NIdx.tab (fun _=>rfl) F ?_|refine NIdx.tab (fun _=>rfl) J ?_|(refine NSl.bytes x.at' x.stop z e ?_)|(refine NSl.bytes y.at' y.stop I h ?_)|refine Al u H6 ?_|refine Al w H6 ?_|refine NLa.mk ⟨_,QM _ (K (o+y.at')) rfl rfl (ltN rfl) rfl rfl,?_⟩|(with_reducible refine NInt.i64 ?_)|refine zF ?_|exact zE))
   |(some t,r2)=>
    obtain⟨-,-,-,rfl⟩:=H t r2 rfl
    refine acQ 78 Tryz.func57 rfl rfl fun _ _ _=> ?_
    (repeat'((conv=>whnf);first|refine Ej ?_|refine Ee ?_|refine Al s H6 ?_|refine NIdx.tab (fun _=>rfl) F ?_|refine NIdx.tab (fun _=>rfl) J ?_|(refine NSl.bytes x.at' x.stop z e ?_)|(refine NSl.bytes y.at' y.stop I h ?_)|refine Al u H6 ?_|refine Al w H6 ?_|(with_reducible refine NInt.i64 ?_)|refine zF ?_|exact zE))
abbrev vpL:AV:= .cl 128 [] [.ptr 6 0]
def vpS (f t:Tm) (m:Nat):AS:=⟨pk m 0 (10,vpL) (pk m 1 (11,tmA f) (pk m 2 (12,iv 0) (pk m 3 (13,vpL) (pk m 4 (14,tmA t) (pk m 5 (15,iv 0) (pk m 6 (16,iv 0) (pk m 7 (8,iv 0) [(2,.ptr 2 0),(3,.ptr 3 0),(6,.ptr 6 0),(7,vpL)]))))))),[(2,tmC f),(3,tmC t),(6,bif m.testBit 5 then [Fy 114 1 22 Iw [tmE f,tmE t]] else bif m.testBit 2 then [Fy 114 1 22 Iw [tmE f]] else [Ff])],bif m.testBit 5 then [(114,[tmE f,tmE t].length,1,22)] else bif m.testBit 2 then [(114,[tmE f].length,1,22)] else []⟩
theorem BO (t:Tm):(tmE t).length<=100:=by
 unfold tmE
 split
 ·have:=Ga 0 23 false (dF t) (by show 13<=_;omega)
  have h:(dF t).length=13:=rfl
  omega
 ·have:=Ga 0 24 false (dG t) (by show 15<=_;omega)
  have h:(dG t).length=15:=rfl
  omega
theorem II (f t:Tm) (g:f.sm) (d:f.ok=true) (i:t.sm) (e:t.ok=true):aC 82 [tmA f,tmA t] (.tup [Hp 0 5 (lC f t),iv 0]):=by
 have j:=Ya f g d
 have h:=Ya t i e
 have r:=BO f
 have q:=BO t
 have c:=L8 [tmE f,tmE t] Af Ab
 rw[show [tmE f,tmE t].flatten=tmE f++tmE t by simp] at c
 refine acY 24 [128,1000003] Tryz.func82 rfl rfl fun _ _ _=> ?_
 (all_goals(conv=>whnf))
 refine Oh (vpS f t) (P6 [128,1000003]) mixed leQ (by decide+kernel) Ac ?_ ?_
 rotate_left
 ·(repeat'((conv=>whnf);first|refine Ee ?_|refine Al c H6 ?_|exact zE))
 (repeat'((conv=>whnf);first|exact trivial|refine A1 ?_ ?_))
 all_goals(repeat'((conv=>whnf);first|refine Jn 100 16 [128,1000003] Tryz.func128 rfl rfl rfl rfl rfl fun l=> ?_|refine Al j rfl ?_|refine Al h rfl ?_|refine Qg Iw (tmE f) ?_|refine E4 Iw (tmE t) ?_|refine Cs (Sz 0 rfl rfl rfl (ltN rfl) rfl rfl) ?_));(all_goals(conv=>whnf))
 all_goals exact J6
theorem YR (x:UInt8):IntKind.i8.wrap (x.toNat:Int)=s8 x:=by
 have e:∀n:Int,IntKind.i8.wrap n=if(true&&decide (n%256>=128))=true then n%256-256 else n%256:=fun n=>rfl
 have:=x.toNat_lt
 rw[e,Cd]
 unfold s8
 by_cases h:x.toNat<128
 ·rw[Aj h,Ai (by rw[A3];omega)];omega
 ·rw[Ai h,Aj (by rw[A3];omega)];omega
abbrev niA (p:Int×Bool):AV:= .tup [iv p.1,bv p.2]
theorem Vd (h:p:=by first|rfl|(simp only[D8,AV.ren,AV.give,D.un,Ef,D7,D6,Ap,Am,Ak,Ea,Ed];first|done|rfl)):p:=h
def tabI:Tab:=⟨(2,.int .i64,Ek,1,8)::tyL,fdL,stL,muL,0⟩
theorem tabJ:TabOk Tryz.prog tabI where
 ty:=fun h=>jK (Q:=fun e:Nat×TypeDesc×Value×Nat×Nat=>TyOk Tryz.prog e.1 e.2.1 e.2.2.1 e.2.2.2.1 e.2.2.2.2) (l:=(2,.int .i64,Ek,1,8)::tyL) (A1 ⟨Ac,Ac⟩ jn) h
 fd:=Eg.fd
 st:=Eg.st
theorem Ve (c:List UInt8) (B:c.length<=100000000):aC 108 [.d (By false c)] (niA (Oc c)):=by
 have e:=Mb c B
 match c with
 |[]=>
  refine Fl 34 _ tabJ mixed Tryz.func108 rfl Ac rfl rfl rfl rfl fun _ _ _=> ?_
  (repeat'((conv=>whnf);first|refine Ej ?_|refine Al e rfl ?_|exact zE))
 |x::r=>
  by_cases d:(!T6 (x::r)||decide (8<(x::r).length))=true
  ·rw[show Oc (x::r)=(0,false) from Aj d]
   cases u:T6 (x::r)
   ·rw[u] at e
    refine Fl 34 _ tabJ mixed Tryz.func108 rfl Ac rfl rfl rfl rfl fun _ _ _=> ?_
    (repeat'((conv=>whnf);first|refine Ej ?_|refine Al e Vd ?_|exact zE))
   ·rw[u] at e d
    have g:decide (((x::r).length:Int)>8)=true:=Aq (by have:=of_decide_eq_true d;omega)
    generalize x::r=c at*
    refine Fl 34 _ tabJ mixed Tryz.func108 rfl Ac rfl rfl rfl rfl fun _ _ _=> ?_
    (repeat'((conv=>whnf);first|refine zP ?_|refine zN ?_|refine Ej ?_|refine Ee ?_|refine Al e Vd ?_|exact zE))
  ·rw[show Oc (x::r)=(qL (s8 x) r,true) from Ai d]
   rw[Co,not_or,Ca,Bool.not_eq_false,A3] at d
   rw[d.1] at e
   have X:r.length<=7:=by have:=d.2;rw[D9] at this;omega
   have g:decide (((x::r).length:Int)>8)=false:=Ao (by rw[D9];omega)
   have W:=x.toNat_lt
   have V:(x::r)[0]?=some x:=rfl
   have w: -(128*256^0)<=s8 x/\s8 x<128*256^0:=by unfold s8;split<;>omega
   have U: -128<=s8 x/\s8 x<128:=by simpa using w
   generalize O:qL (s8 x) r=R
   have N:=YR x
   generalize s8 x=q0 at*
   refine Fl 34 _ tabJ mixed Tryz.func108 rfl Ac rfl rfl rfl rfl fun _ _ _=> ?_
   (repeat'((conv=>whnf);first|refine zP ?_|refine zN ?_|refine Ej ?_|refine Ee ?_|refine Al e Vd ?_|refine NIdx.bytes V ?_|refine So (1) ?_|refine NInt.as (q0) (N) ?_|(with_reducible refine NInt.i64 ?_)));(all_goals(conv=>whnf))
   refine Fh (fun z:Nat×Int=>z.1<=r.length/\qL z.2 (r.drop z.1)=R/\ -(128*256^z.1)<=z.2/\z.2<128*256^z.1) (fun z=>r.length-z.1) (fun z=>⟨[(4,iv z.2),(21,.d (By false r)),(22,iv r.length),(23,iv z.1)],[],[]⟩) (0,q0) ⟨Nat.zero_le _,O,w⟩ leQ ?_
   rintro⟨i,q⟩ ⟨M,f,Q,J⟩
   simp only at M f Q J
   by_cases j:i<r.length
   rotate_left
   ·have H:decide ((i:Int)<(r.length:Int))=false:=Ao Aa
    rw[Bp Aa] at f
    have f:q=R:=f
    subst f
    (repeat'((conv=>whnf);refine zN ?_));(all_goals(conv=>whnf))
    all_goals exact zE
   have H:decide ((i:Int)<(r.length:Int))=true:=Aq Aa
   obtain⟨y,v⟩:∃p,r[i]?=some p:=⟨_,Ev j⟩
   have s:r.drop i=y::r.drop (i+1):=by
    obtain⟨F,T⟩:=Ew.1 v
    rw[<-T];exact A5 F
   rw[s] at f
   have K:=y.toNat_lt
   have I:(256:Int)^i<=256^6:=by
    have:(256:Nat)^i<=256^6:=Nat.pow_le_pow_right Aa Aa
    exact_mod_cast this
   have l:(256:Int)^6=281474976710656:=Ae
   have h:(256:Int)^(i+1)=256^i*256:=Int.pow_succ ..
   rw[l] at I
   have A: -9223372036854775808<=q*256:=Aa
   have L:q*256<9223372036854775808:=Aa
   have E:=or8 K A L
   (repeat'((conv=>whnf);first|refine zP ?_|refine NIdx.bytes v ?_|refine NInt.as ((q*256)) ((Bl (q*256) Aa)) ?_|refine NInt.as ((q*256+(y.toNat:Int))) (E) ?_|(with_reducible refine NInt.i64 ?_)|refine Fv (by first|decide|omega|(simp only[D9,Ax];omega)) ?_));(all_goals(conv=>whnf))
   refine⟨(i+1,q*256+(y.toNat:Int)),⟨j,f,by rw[h];omega,by rw[h];omega⟩,by simp only;omega,?_⟩
   exact leQ
def YS (c:List UInt8):Int:=if c=[0] then 0 else if IB c=true then 1 else-1
theorem YT (c:List UInt8):decide (YS c>=0)=IB c:=by
 unfold YS
 by_cases h:c=[0]
 ·rw[Aj h,h];rfl
 ·rw[Ai h]
  cases IB c<;>rfl
theorem qR (c:List UInt8) (z:c.length<=100000000) (s:T6 c=true):aC 339 [.d (By false c)] (iv (YS c)):=by
 have d:=Mb c z
 rw[s] at d
 match c with
 |[]=>cases s
 |x::r=>
  have f:(x::r)[0]?=some x:=rfl
  have j:=uN x
  by_cases g:x::r=[0]
  ·obtain⟨rfl,rfl⟩:=List.cons.inj g
   refine acQ 24 Tryz.func339 rfl rfl fun _ _ _=> ?_
   (repeat'((conv=>whnf);first|refine Ej ?_|refine Ee ?_|refine Al d rfl ?_|refine NIdx.bytes f ?_|exact zE))
  unfold YS
  rw[Ai g]
  have i:(((x::r).length:Int)==1)=false\/((((x::r).length:Int)==1)=true/\((x.toNat:Int)==0)=false):=by
   cases v:(((x::r).length:Int)==1)
   ·exact .inl rfl
   ·refine .inr ⟨rfl,?_⟩
    rw[A9,D9] at v
    rw[An]
    intro A
    refine g ?_
    rw[Bn (l:=r) Aa,show x=0 from B8.1 (show x.toNat=0 by omega)]
  by_cases u:x.toNat<128
  ·rw[Aj (show IB (x::r)=true from Aq u)]
   have q:(((x.toNat/128*128:Nat):Int) !=0)=false:=by rw[B1];omega
   rcases i with e|⟨e,w⟩
   all_goals
    refine acQ 24 Tryz.func339 rfl rfl fun _ _ _=> ?_
    (repeat'((conv=>whnf);first|refine zP ?_|refine zN ?_|refine Ej ?_|refine Ee ?_|refine Al d Vd ?_|refine NIdx.bytes f ?_|refine NInt.as (((x.toNat/128*128:Nat):Int)) (j) ?_|exact zE))
  ·rw[Ai (show¬IB (x::r)=true from fun h=>u (of_decide_eq_true h))]
   have q:(((x.toNat/128*128:Nat):Int) !=0)=true:=by rw[Av];omega
   rcases i with e|⟨e,w⟩
   all_goals
    refine acQ 24 Tryz.func339 rfl rfl fun _ _ _=> ?_
    (repeat'((conv=>whnf);first|refine zP ?_|refine zN ?_|refine Ej ?_|refine Ee ?_|refine Al d Vd ?_|refine NIdx.bytes f ?_|refine NInt.as (((x.toNat/128*128:Nat):Int)) (j) ?_|exact zE))
theorem lF (l:List UInt8) (u:Nat) (f:l.length<=1000000) (e:u<=255) (g:Jd l u=true):aC 32 [btA l u] (.tup [Hp 0 5 (O5 l u),iv 0]):=by
 have c:=Lv l u f e
 rw[g] at c
 have d:=Ou [[UInt8.ofNat u],l] Af Ab
 rw[show [[UInt8.ofNat u],l].flatten=O5 l u by simp[O5]] at d
 refine acQ 15 Tryz.func32 rfl rfl fun _ _ _=> ?_
 (repeat'((conv=>whnf);first|refine Ee ?_|refine Al c Vd ?_|(with_reducible refine fR (u) ?_)|refine Al d Vd ?_|exact zE))
abbrev alA (a:Alg):AV:= .agg [sx a.oid,.d (By false a.par)]
abbrev li (a:Alg):AV:= .agg [sx a.oid,.d (By true a.par)]
abbrev keA (k:Ky):AV:= .agg [sx k.a.oid,.d (By false k.a.par),.d (By false k.l),iv k.u]
def alR (r:Alg×Nat×Nat):AV:= .tup [li r.1,erA r.2.1 r.2.2]
def keR (r:Ky×Nat×Nat):AV:= .tup [.agg [sx r.1.a.oid,.d (By true r.1.a.par),.d (By true r.1.l),iv r.1.u],erA r.2.1 r.2.2]
structure Alg.sm (a:Alg):Prop where
 o:a.oid.length<=4000000
 p:a.par.length<=100000000
theorem Jz (h:p:=by first|rfl|(simp only[D8,AV.ren,AV.give,D.un,Ef,D7,D6,Ap,Am,Ak,Ea,Ed,Ep,Eo,F8,Ex,Ha];first|done|rfl)):p:=h
theorem vX (b:List UInt8) (h:b.length<=1000000000):aC 132 [.d (By false b)] (bv (Gt b)):=by
 rw[Re]
 rcases Qq b h with⟨d,l,j,tm,tk,q,i,c⟩|⟨d,c⟩
 ·rw[d]
  refine acQ 13 Tryz.func132 rfl rfl fun _ _ _=> ?_
  (repeat'((conv=>whnf);refine Al c Jz ?_));(all_goals(conv=>whnf))
  all_goals exact zE
 ·generalize N3 b=tO at c
  generalize Mc b=e at c d|-
  have g:((e:Int)==0)=false:=by rw[An];omega
  have f:(e==0)=false:=by rw[An];exact d
  refine acQ 13 Tryz.func132 rfl rfl fun _ _ _=> ?_
  (repeat'((conv=>whnf);refine Al c Jz ?_));(all_goals(conv=>whnf))
  all_goals(refine E0 ?_;(repeat'(first|refine A1 ?_ ?_|exact rfl));(all_goals(conv=>whnf)))
  all_goals(rw[g,f];try rfl)
theorem Rq (a:Alg) (h:a.sm):aC 86 [alA a] (bv (X8 a)):=by
 have c:=Kq a.oid h.o
 have d:=vX a.par (by have:=h.p;omega)
 obtain⟨o,p⟩:=a
 simp only at c d
 unfold X8
 simp only
 generalize H7 o=V at c|-
 cases p with
 |nil=>
  cases V
  all_goals
   refine acQ 17 Tryz.func86 rfl rfl fun _ _ _=> ?_
   (repeat'((conv=>whnf);first|refine Ej ?_|refine Ee ?_|refine Al c rfl ?_|exact zE))
 |cons x r=>
  have f:((((x::r).length:Nat):Int)==0)=false:=by rw[An];simp only[D9];omega
  have e:((x::r:List UInt8)==[])=false:=rfl
  rw[e,C9]
  generalize Gt (x::r)=W at d|-
  generalize x::r=p at*
  cases V
  all_goals
   refine acQ 17 Tryz.func86 rfl rfl fun _ _ _=> ?_
   (repeat'((conv=>whnf);first|refine zP ?_|refine zN ?_|refine Ej ?_|refine Ee ?_|refine Al c rfl ?_|refine Al d Jz ?_|exact zE))
theorem IJ (s:List UInt8) (f:s.length<=4000000) (d:H7 s=true):aC 87 [sx s] (.tup [.d (By true (Ei 0 6 false (Gs s))),iv 0]):=by
 have c:=U2 s f
 rw[(Tq s).1 d] at c
 have g:=Ma s
 have e:=J1 0 6 false (Gs s) Aa Aa Aa
 refine acQ 19 Tryz.func87 rfl rfl fun _ _ _=> ?_
 (repeat'((conv=>whnf);first|refine Ej ?_|refine Al c rfl ?_|refine Al e Jz ?_|exact zE))
theorem Pc (a:Alg) (h:a.sm) (c:X8 a=true):aC 31 [alA a] (.tup [Hp 0 5 (Rl a),iv 0]):=by
 have d:=Rq a h
 rw[c] at d
 have i:=h.o
 have l:=h.p
 have f:H7 a.oid=true:=by unfold X8 at c;rw[Et] at c;exact c.1
 have g:=IJ a.oid h.o f
 have j:=Ma a.oid
 have q:=Ga 0 6 false (Gs a.oid) Aa
 have e:=L8 [Ei 0 6 false (Gs a.oid),a.par] Af Ab
 rw[show Ei 0 16 true [Ei 0 6 false (Gs a.oid),a.par].flatten=Rl a by simp[Rl]] at e
 refine acQ 25 Tryz.func31 rfl rfl fun _ _ _=> ?_
 (repeat'((conv=>whnf);first|refine Ee ?_|refine Al d Jz ?_|refine Al g rfl ?_|refine Al e Jz ?_|exact zE))
theorem Hr (c o:Int):aC 64 [iv c,iv o] (.agg [iv c,iv o]):=by
 refine acQ 8 Tryz.func64 rfl rfl fun _ _ _=> ?_
 (all_goals(conv=>whnf))
 all_goals exact zE
theorem Rr (b:List UInt8) (Y:b.length<=800000):aC 18 [.d (By false b)] (alR (Ju b)):=by
 have d:=Fc b 0 16 Aa
 have h:=fun x=>Ez (b:=b) (c:=0) (n:=16) (x:=x)
 unfold Ju alQ
 generalize Dn b 0 16=r at d h|-
 by_cases v:r.code≠0
 ·rw[lrA,Aj v] at d
  rw[Aj v]
  have O:((r.code:Int) !=0)=true:=by rw[Av];omega
  generalize r.code=c at d O
  generalize r.off=o at d
  refine acQ 114 Tryz.func18 rfl rfl fun _ _ _=> ?_
  (repeat'((conv=>whnf);first|refine zP ?_|refine Al d Jz ?_|refine zF ?_|exact zE))
 rw[lrA,Ai v] at d
 rw[Ai v]
 obtain⟨l,c,o⟩:=r
 obtain rfl:c=0:=As.1 v
 match l with
 |[]=>
  have e:=Hr 1 b.length
  refine acQ 114 Tryz.func18 rfl rfl fun _ _ _=> ?_
  (repeat'((conv=>whnf);first|refine Ej ?_|refine Ee ?_|refine Al d Jz ?_|refine Al e rfl ?_|exact zE))
 |x::y::z::q=>
  have e:=Hr 2 z.at'
  have K:(x::y::z::q:List El)[2]?=some z:=rfl
  refine acQ 114 Tryz.func18 rfl rfl fun _ _ _=> ?_
  (repeat'((conv=>whnf);first|refine Ee ?_|refine Al d Jz ?_|refine NIdx.tab (fun _=>rfl) K ?_|refine Al e rfl ?_|(refine NBr.mk (fun I=> ?_) (fun I=> ?_)<;>(have H:=I;(try simp only[zS] at H)<;>first|(exfalso;omega)|skip))|exact zE))
 |[x]=>
  obtain⟨Q,M,L⟩:=h x Ab
  have g:=Fo x 0 6 false
  have u:(bod b x).length<=b.length:=by unfold bod;rw[Ec,Eh];omega
  have f:=G5 (bod b x) Aa
  have j:([x]:List El)[0]?=some x:=rfl
  show Es _ _ _ (fun r=>r=alR (alX b x none))
  unfold alX
  cases A:x.isB 0 6 false
  ·rw[A] at g
   rw[Aj rfl]
   have e:=Hr 3 x.at'
   refine acQ 114 Tryz.func18 rfl rfl fun _ _ _=> ?_
   (repeat'((conv=>whnf);first|refine Ej ?_|refine Ee ?_|refine Al d Jz ?_|refine NIdx.tab (fun _=>rfl) j ?_|refine Al g rfl ?_|refine Al e rfl ?_|exact zE))
  rw[A] at g
  rw[Ai Ab,Ox] at*
  unfold bod at f u|-
  generalize odT ((b.drop x.body).take (x.stop-x.body))=ot at f|-
  by_cases s:odC ((b.drop x.body).take (x.stop-x.body))=0
  ·rw[s] at f
   rw[Ai Aa]
   refine acQ 114 Tryz.func18 rfl rfl fun _ _ _=> ?_
   (repeat'((conv=>whnf);first|refine Ee ?_|refine Al d Jz ?_|refine NIdx.tab (fun _=>rfl) j ?_|refine Al g rfl ?_|refine NSl.slice (x.body) (x.stop) ?_|refine Al f Jz ?_|refine zF ?_|exact zE))
  ·rw[Aj s]
   generalize odC ((b.drop x.body).take (x.stop-x.body))=oc at f s|-
   have gd:((oc:Int) !=0)=true:=by rw[Av];omega
   have e:=Hr oc x.body
   refine acQ 114 Tryz.func18 rfl rfl fun _ _ _=> ?_
   (repeat'((conv=>whnf);first|refine zP ?_|refine zN ?_|refine Ej ?_|refine Ee ?_|refine Al d Jz ?_|refine NIdx.tab (fun _=>rfl) j ?_|refine Al g rfl ?_|refine NSl.slice (x.body) (x.stop) ?_|refine Al f Jz ?_|refine Al e rfl ?_|refine zF ?_|exact zE))
 |[x,y]=>
  obtain⟨Q,M,L⟩:=h x Ab
  obtain⟨U,Z,X⟩:=h y Ab
  have g:=Fo x 0 6 false
  have u:(bod b x).length<=b.length:=by unfold bod;rw[Ec,Eh];omega
  have E:(elO b y).length<=b.length:=Kr b y
  have f:=G5 (bod b x) Aa
  have B:=Gq (elO b y) Aa
  have i:=Qq (elO b y) Aa
  have w:=Wp (elO b y)
  have j:([x,y]:List El)[0]?=some x:=rfl
  have J:([x,y]:List El)[1]?=some y:=rfl
  show Es _ _ _ (fun r=>r=alR (alX b x (some y)))
  unfold alX
  cases A:x.isB 0 6 false
  ·rw[A] at g
   rw[Aj rfl]
   have e:=Hr 3 x.at'
   refine acQ 114 Tryz.func18 rfl rfl fun _ _ _=> ?_
   (repeat'((conv=>whnf);first|refine Ej ?_|refine Ee ?_|refine Al d Jz ?_|refine NIdx.tab (fun _=>rfl) j ?_|refine Al g rfl ?_|refine Al e rfl ?_|exact zE))
  rw[A] at g
  rw[Ai Ab,Ox] at*
  unfold bod at f u|-
  generalize odT ((b.drop x.body).take (x.stop-x.body))=ot at f|-
  by_cases s:odC ((b.drop x.body).take (x.stop-x.body))=0
  ·rw[s] at f
   rw[Ai Aa]
   unfold elO at B i w E|-
   rcases i with⟨F,V,T,tm,tk,W,N,i⟩|⟨F,i⟩
   ·simp only
    rw[Ai Aa]
    refine acQ 114 Tryz.func18 rfl rfl fun _ _ _=> ?_
    (repeat'((conv=>whnf);first|refine Ej ?_|refine Ee ?_|refine Al d Jz ?_|refine NIdx.tab (fun _=>rfl) j ?_|refine NIdx.tab (fun _=>rfl) J ?_|refine Al g rfl ?_|refine NSl.slice (x.body) (x.stop) ?_|refine NSl.slice (y.at') (y.stop) ?_|refine Al f Jz ?_|refine Al B Jz ?_|refine Al i Jz ?_|refine zF ?_|exact zE))
   ·simp only
    rw[Aj F]
    have e:=Hr (Mc ((b.drop y.at').take (y.stop-y.at'))) ((y.at'+N3 ((b.drop y.at').take (y.stop-y.at')):Nat):Int)
    generalize N3 ((b.drop y.at').take (y.stop-y.at'))=tO at i w e|-
    generalize Mc ((b.drop y.at').take (y.stop-y.at'))=R at i F e|-
    have gd:((R:Int) !=0)=true:=by rw[Av];omega
    refine acQ 114 Tryz.func18 rfl rfl fun _ _ _=> ?_
    (repeat'((conv=>whnf);first|refine zP ?_|refine zN ?_|refine Ej ?_|refine Ee ?_|refine Al d Jz ?_|refine NIdx.tab (fun _=>rfl) j ?_|refine NIdx.tab (fun _=>rfl) J ?_|refine Al g rfl ?_|refine NSl.slice (x.body) (x.stop) ?_|refine NSl.slice (y.at') (y.stop) ?_|refine Al f Jz ?_|refine Al B Jz ?_|refine Al i Jz ?_|refine NInt.as (((y.at'+tO:Nat):Int)) ((by rw[Bl _ Aa];omega)) ?_|refine Al e rfl ?_|refine zF ?_|exact zE))
  ·rw[Aj s]
   generalize odC ((b.drop x.body).take (x.stop-x.body))=oc at f s|-
   have gd:((oc:Int) !=0)=true:=by rw[Av];omega
   have e:=Hr oc x.body
   refine acQ 114 Tryz.func18 rfl rfl fun _ _ _=> ?_
   (repeat'((conv=>whnf);first|refine zP ?_|refine zN ?_|refine Ej ?_|refine Ee ?_|refine Al d Jz ?_|refine NIdx.tab (fun _=>rfl) j ?_|refine Al g rfl ?_|refine NSl.slice (x.body) (x.stop) ?_|refine Al f Jz ?_|refine Al e rfl ?_|refine zF ?_|exact zE))
structure Ky.sm (k:Ky):Prop where
 a:k.a.sm
 l:k.l.length<=1000000
 u:k.u<=255
theorem Jb (h:p:=by first|rfl|(simp only[D8,AV.ren,AV.give,D.un,Ef,D7,D6,Ap,Am,Ak,Ea,Ed,Ep,Eo,F8,Ex,Ha];first|done|rfl)):p:=h
theorem dS (k:Ky) (h:k.sm):aC 115 [keA k] (bv (qG k)):=by
 have c:=Rq k.a h.a
 have d:=Lv k.l k.u h.l h.u
 unfold qG
 generalize X8 k.a=V at c
 cases V
 all_goals
  refine acQ 11 Tryz.func115 rfl rfl fun _ _ _=> ?_
  (repeat'((conv=>whnf);first|refine Ej ?_|refine Ee ?_|refine Al c Jb ?_|refine Al d Jb ?_|exact zE))
theorem qS (a c:List UInt8) (g:a.length<=400000000) (f:c.length<=400000000):aC 129 [.d (By false a),.d (By false c)] (.tup [Hp 0 5 (Ei 0 16 true (a++Ei 0 3 false c)),iv 0]):=by
 have e:=J1 0 3 false c Aa Aa Aa
 have h:=Ga 0 3 false c Aa
 have d:=L8 [a,Ei 0 3 false c] Af Ab
 rw[show [a,Ei 0 3 false c].flatten=a++Ei 0 3 false c by simp] at d
 refine acQ 23 Tryz.func129 rfl rfl fun _ _ _=> ?_
 (repeat'((conv=>whnf);first|refine Ee ?_|refine Al e Jb ?_|refine Al d Jb ?_|exact zE))
theorem QN (a:Alg) (h:a.sm):(Rl a).length<=200000000:=by
 have:=h.o;have:=h.p
 have d:=Ma a.oid
 have c:=Ga 0 6 false (Gs a.oid) Aa
 unfold Rl
 have k3:=Ga 0 16 true (Ei 0 6 false (Gs a.oid)++a.par) (by rw[En];omega)
 rw[En] at k3
 omega
theorem vY (k:Ky) (h:k.sm) (c:qG k=true):aC 83 [keA k] (.tup [Hp 0 5 (PM k),iv 0]):=by
 have f:=dS k h
 rw[c] at f
 unfold qG at c
 rw[Et] at c
 have g:=Pc k.a h.a c.1
 have e:=lF k.l k.u h.l h.u c.2
 have i:=QN k.a h.a
 have j:=h.l
 have d:=qS (Rl k.a) (O5 k.l k.u) Aa (by unfold O5;rw[D9];omega)
 unfold PM
 generalize Rl k.a=A at g d
 generalize O5 k.l k.u=B at e d
 refine acQ 39 Tryz.func83 rfl rfl fun _ _ _=> ?_
 (repeat'((conv=>whnf);first|refine Ee ?_|refine Al f Jb ?_|refine Al g Jb ?_|refine Al e Jb ?_|refine Al d Jb ?_|exact zE))
theorem dT (b:List UInt8) (w:b.length<=1000000000):(Ju b).2.2<=2*b.length:=by
 have v:=Fa b
 unfold Ju alQ
 have d:=fun x=>Ez (b:=b) (c:=0) (n:=16) (x:=x)
 by_cases k:(Dn b 0 16).code≠0
 ·rw[Aj k]
  have:=Hg b 0 16
  simp only;omega
 rw[Ai k]
 generalize Dn b 0 16=R at d|-
 obtain⟨l,c,o⟩:=R
 simp only at d|-
 have X:∀x∈l,∀y,(∀z,y=some z->z∈l)->(alX b x y).2.2<=2*b.length:=by
  intro x j y i
  obtain⟨u,s,q⟩:=d x j
  unfold alX
  split
  ·simp only;omega
  split
  ·simp only;omega
  split
  ·simp only;omega
  ·rename_i z
   obtain⟨e,g,f⟩:=d z (i z rfl)
   split
   ·have:=Wp (elO b z)
    have:=Kr b z
    simp only;omega
   ·simp only;omega
 match l with
 |[]=>simp only;omega
 |[x]=>exact X x Ab none (fun _ h=>by cases h)
 |[x,y]=>exact X x Ab (some y) (fun z h=>by cases h;simp)
 |x::y::z::r=>obtain⟨e,g,f⟩:=d z Ab;simp only;omega
theorem vZ (b:List UInt8) (hb:b.length<=800000):aC 59 [.d (By false b)] (keR (O6 b)):=by
 have f:=Fc b 0 16 Aa
 have i:=fun x=>Ez (b:=b) (c:=0) (n:=16) (x:=x)
 unfold O6 keQ
 generalize Dn b 0 16=R at f i|-
 obtain⟨l,c,o⟩:=R
 simp only at i|-
 by_cases v:c≠0
 ·rw[lrA,Aj v] at f
  rw[Aj v]
  have O:((c:Int) !=0)=true:=by rw[Av];omega
  refine acQ 105 Tryz.func59 rfl rfl fun _ _ _=> ?_
  (repeat'((conv=>whnf);first|refine zP ?_|refine Al f Jb ?_|refine zF ?_|exact zE))
 rw[lrA,Ai v] at f
 rw[Ai v]
 match l with
 |[]=>
  have g:=Hr 1 b.length
  refine acQ 105 Tryz.func59 rfl rfl fun _ _ _=> ?_
  (repeat'((conv=>whnf);first|refine Ej ?_|refine Ee ?_|refine Al f Jb ?_|refine Al g rfl ?_|exact zE))
 |[_]=>
  have g:=Hr 1 b.length
  refine acQ 105 Tryz.func59 rfl rfl fun _ _ _=> ?_
  (repeat'((conv=>whnf);first|refine Ej ?_|refine Ee ?_|refine Al f Jb ?_|refine Al g rfl ?_|exact zE))
 |x::y::z::q=>
  have g:=Hr 2 z.at'
  have N:(x::y::z::q:List El)[2]?=some z:=rfl
  refine acQ 105 Tryz.func59 rfl rfl fun _ _ _=> ?_
  (repeat'((conv=>whnf);first|refine Ee ?_|refine Al f Jb ?_|refine NIdx.tab (fun _=>rfl) N ?_|refine Al g rfl ?_|(refine NBr.mk (fun K=> ?_) (fun K=> ?_)<;>(have H:=K;(try simp only[zS] at H)<;>first|(exfalso;omega)|skip))|exact zE))
 |[x,y]=>
  obtain⟨X,V,U⟩:=i x Ab
  obtain⟨W,y2,Z⟩:=i y Ab
  have j:=Fo y 0 3 false
  have T:(elO b x).length<=b.length:=Kr b x
  have Y:(bod b y).length<=b.length:=by unfold bod;rw[Ec,Eh];omega
  have s:=Rr (elO b x) Aa
  have E:=dT (elO b x) Aa
  have u:=Qs (bod b y) Aa
  have J:([x,y]:List El)[0]?=some x:=rfl
  have A:([x,y]:List El)[1]?=some y:=rfl
  show Es _ _ _ (fun r=>r=keR (keX b x y))
  unfold keX
  obtain⟨w,e⟩:∃d,elO b x=d:=⟨_,rfl⟩
  obtain⟨F,h⟩:∃d,bod b y=d:=⟨_,rfl⟩
  rw[e] at s T E|-
  rw[h] at u|-
  unfold elO at e
  unfold bod at h
  cases M:y.isB 0 3 false
  ·rw[M] at j
   rw[Aj rfl]
   have g:=Hr 3 y.at'
   refine acQ 105 Tryz.func59 rfl rfl fun _ _ _=> ?_
   (repeat'((conv=>whnf);first|refine Ej ?_|refine Ee ?_|refine Al f Jb ?_|refine NIdx.tab (fun _=>rfl) A ?_|refine Al j rfl ?_|refine Al g rfl ?_|exact zE))
  rw[M] at j
  rw[Ai Ab]
  generalize Ju w=p at s E|-
  obtain⟨a,B,Q⟩:=p
  simp only at E|-
  by_cases I:B≠0
  ·rw[Aj I]
   have O:((B:Int) !=0)=true:=by rw[Av];omega
   have g:=Hr B ((x.at'+Q:Nat):Int)
   refine acQ 105 Tryz.func59 rfl rfl fun _ _ _=> ?_
   (repeat'((conv=>whnf);first|refine zP ?_|refine zN ?_|refine Ej ?_|refine Ee ?_|refine Al f Jb ?_|refine NIdx.tab (fun _=>rfl) J ?_|refine NIdx.tab (fun _=>rfl) A ?_|refine Al j rfl ?_|(refine NSl.bytes x.at' x.stop w e ?_)|refine Al s Jb ?_|refine Al g rfl ?_|(with_reducible refine NInt.i64 ?_)|refine zF ?_|exact zE))
  rw[Ai I]
  obtain rfl:B=0:=As.1 I
  cases L:dcB F with
  |none=>
   rw[L] at u
   have g:=Hr 6 y.body
   refine acQ 105 Tryz.func59 rfl rfl fun _ _ _=> ?_
   (repeat'((conv=>whnf);first|refine Ej ?_|refine Ee ?_|refine Al f Jb ?_|refine NIdx.tab (fun _=>rfl) J ?_|refine NIdx.tab (fun _=>rfl) A ?_|refine Al j rfl ?_|(refine NSl.bytes x.at' x.stop w e ?_)|(refine NSl.bytes y.body y.stop F h ?_)|refine Al s Jb ?_|refine Al u Jb ?_|refine Al g rfl ?_|refine zF ?_|exact zE))
  |some p=>
   rw[L] at u
   refine acQ 105 Tryz.func59 rfl rfl fun _ _ _=> ?_
   (repeat'((conv=>whnf);first|refine Ee ?_|refine Al f Jb ?_|refine NIdx.tab (fun _=>rfl) J ?_|refine NIdx.tab (fun _=>rfl) A ?_|refine Al j rfl ?_|(refine NSl.bytes x.at' x.stop w e ?_)|(refine NSl.bytes y.body y.stop F h ?_)|refine Al s Jb ?_|refine Al u Jb ?_|refine zF ?_|exact zE))
theorem Fq (b:List UInt8) (h:b.length<=1000000000):keyOf Tryz.prog 9 (.string ⟨⟨b⟩⟩)=some (.string b):=by
 simp[keyOf,mapKey,Tryz.underlying9]
 show b.length<=maxLen
 unfold maxLen;omega
theorem E2:Maps.Keyed Tryz.prog 9:=Maps.string_keyed Tryz.underlying9
theorem qT (s:List (List UInt8)) (b:List UInt8):(dD s (.string b)).getD (.bool false)= .bool (s.contains b):=by
 unfold dD
 simp only
 cases s.contains b<;>rfl
def exC (x:Ext):List D:=[sD x.oid,.v (.bool x.cr),By false x.val]
def exO (x:Ext):List D:=[sD x.oid,.v (.bool x.cr),By true x.val]
def Ph (l:List Ext):D:=J5 false 3 exC l
def Px (l:List Ext):D:=J5 true 3 exO l
abbrev exA (x:Ext):AV:= .agg [sx x.oid,bv x.cr,.d (By false x.val)]
abbrev ou (x:Ext):AV:= .agg [sx x.oid,bv x.cr,.d (By true x.val)]
theorem Hm (l:List Ext):Ef (l.flatMap exO)=l.flatMap exC:=by
 induction l with
 |nil=>rfl
 |cons x r c=>
  show D.un (sD x.oid)::D.un (.v (.bool x.cr))::D.un (By true x.val)::Ef (r.flatMap exO)=_
  rw[c,D7];rfl
theorem YU (x:Ext):Ef (exC x)=exC x:=by
 show D.un (sD x.oid)::D.un (.v (.bool x.cr))::D.un (By false x.val)::[]=_
 rw[D7];rfl
theorem Ho (l:List Ext):(Ph l).un=Ph l:=K3 YU false 3 l
theorem Ib (l:List Ext):(Px l).un=Ph l:=by
 show D.sl false l.length 3 (Ef (l.flatMap exO))=_
 rw[Hm];rfl
theorem Yc (x:Ext) (h:x.oid.length<=4000000):aC 151 [exA x] (bv (H7 x.oid)):=by
 have c:=Kq x.oid h
 refine acQ 6 Tryz.func151 rfl rfl fun d _ _=> ?_
 (repeat'((conv=>whnf);refine Al c rfl ?_));(all_goals(conv=>whnf))
 all_goals exact zE
theorem G0 (h:p:=by first|rfl|(simp only[D8,AV.ren,AV.give,D.un,Ef,D7,D6,Ap,Am,Ak,Ea,Ed,Ep,Eo,Hm,Fy,Ho,Ib];first|done|rfl)):p:=h
theorem iE (l:List Ext) (O:l.length<=1000000) (A:∀x∈l,x.oid.length<=4000000):aC 111 [.d (Ph l)] (bv (eV l)):=by
 unfold eV
 generalize K:HL [] l=R
 refine acQ 29 Tryz.func111 rfl rfl fun H _ _=> ?_
 (repeat'((conv=>whnf);((refine NStep.some (Ku 9 rfl rfl (ltN rfl)) ?_;rintro _ ⟨m,rfl⟩;rw[qC]))));(all_goals(conv=>whnf))
 refine Fh (fun z:Nat×List (List UInt8)=>z.1<=l.length/\HL z.2 (l.drop z.1)=R) (fun z=>l.length-z.1) (fun z=>⟨[(0,.d (Ph l)),(3,Kl Tryz.prog 9 H.heap.size m z.1 (dD z.2)),(7,.d (Ph l)),(8,iv l.length),(9,iv z.1)],[],[]⟩) (0,[]) ⟨Ab,K⟩ leQ ?_
 rintro⟨i,s⟩ ⟨J,g⟩
 simp only at J g
 by_cases u:i<l.length
 rotate_left
 ·have I:decide ((i:Int)<(l.length:Int))=false:=Ao Aa
  rw[Bp Aa,HL] at g
  subst g
  have e:(true&& !l.isEmpty)=decide ((l.length:Int)>0):=by cases l with
   |nil=>rfl
   |cons x r=>rw[Aq (by rw[D9];omega)];rfl
  rw[e]
  (repeat'((conv=>whnf);refine zN ?_));(all_goals(conv=>whnf))
  all_goals exact zE
 have I:decide ((i:Int)<(l.length:Int))=true:=Aq Aa
 obtain⟨x,j⟩:∃p,l[i]?=some p:=⟨_,Ev u⟩
 have E:l.drop i=x::l.drop (i+1):=by
  obtain⟨F,L⟩:=Ew.1 j
  rw[<-L];exact A5 F
 rw[E,HL] at g
 have q:=Yc x (A x (F9 j))
 have c:x.oid.length<=1000000000:=Bi (A x (F9 j)) Aa
 obtain⟨d,M,N⟩:=x
 simp only at g q c
 have v:∀B fp w bm gt,RA B fp w bm gt (bv (s.contains d)) ((dD s (.string d)).getD (.bool false)):=fun _ _ _ _ _=>by rw[qT];exact .d (.v _)
 generalize s.contains d=k at v g
 by_cases f:(k|| !H7 d)=true
 ·rw[Aj f] at g
  subst g
  cases k
  ·have f:(!H7 d)=true:=f
   rw[Ca] at f
   rw[f] at q
   (repeat'((conv=>whnf);first|refine zP ?_|refine zN ?_|refine Ej ?_|refine Ee ?_|refine NIdx.tab (fun _=>rfl) j ?_|(refine Cs (Km rfl rfl (ltN rfl) rfl rfl (Eg.ty rfl).u E2 (Fq d c) (Eg.ty rfl).zero v) ?_)|refine Al q G0 ?_|exact zE))
  ·(repeat'((conv=>whnf);first|refine zP ?_|refine zN ?_|refine Ej ?_|refine Ee ?_|refine NIdx.tab (fun _=>rfl) j ?_|(refine Cs (Km rfl rfl (ltN rfl) rfl rfl (Eg.ty rfl).u E2 (Fq d c) (Eg.ty rfl).zero v) ?_)|exact zE))
 ·rw[Ai f] at g
  rw[Co,not_or,Bool.not_eq_true,Ca,Bool.not_eq_false] at f
  obtain⟨rfl,f⟩:=f
  rw[f] at q
  (repeat'((conv=>whnf);first|refine zP ?_|refine zN ?_|refine Ej ?_|refine Ee ?_|refine NIdx.tab (fun _=>rfl) j ?_|(refine Cs (Km rfl rfl (ltN rfl) rfl rfl (Eg.ty rfl).u E2 (Fq d c) (Eg.ty rfl).zero v) ?_)|refine Al q G0 ?_|((refine Fx (Fk [3] rfl rfl rfl rfl rfl (fun _ _ _ _ _ _ h=>h.val) (fun s A=>by obtain rfl:=Bh.1 A;rfl) (Eg.ty rfl).u E2 (Fq d c) (by unfold maxLen;omega)) ?_;rw[dE]))|(with_reducible refine NInt.i64 ?_)));(all_goals(conv=>whnf))
  refine⟨(i+1,d::s),⟨u,g⟩,by simp only;omega,?_⟩
  exact leQ
theorem QO (l:List Ext) (c:l.length<=1000000) (e:∀x∈l,x.oid.length<=4000000):aC 118 [.d (Ph l)] (bv (eV l)):=by
 have d:=iE l c e
 refine acQ 5 Tryz.func118 rfl rfl fun f _ _=> ?_
 (repeat'((conv=>whnf);refine Al d G0 ?_));(all_goals(conv=>whnf))
 all_goals exact zE
def exR (r:Ext×Nat×Nat):AV:= .tup [ou r.1,erA r.2.1 r.2.2]
theorem IK (b:List UInt8) (hb:b.length<=800000):aC 110 [.d (By false b)] (exR (Ua b)):=by
 have d:=Fc b 0 16 Aa
 have i:=fun x=>Ez (b:=b) (c:=0) (n:=16) (x:=x)
 unfold Ua exQ
 generalize Dn b 0 16=R at d i|-
 obtain⟨l,c,o⟩:=R
 simp only at i|-
 by_cases O:c≠0
 ·rw[lrA,Aj O] at d
  rw[Aj O]
  have gc:((c:Int) !=0)=true:=by rw[Av];omega
  refine acQ 124 Tryz.func110 rfl rfl fun s _ _=> ?_
  (repeat'((conv=>whnf);first|refine zP ?_|refine Al d G0 ?_|refine zF ?_|exact zE))
 rw[lrA,Ai O] at d
 rw[Ai O]
 have v:l.length<2\/3<l.length->aC 110 [.d (By false b)] (exR (.z,3,0)):=by
  intro hl
  have g:decide ((l.length:Int)<2)=true\/(decide ((l.length:Int)<2)=false/\decide ((l.length:Int)>3)=true):=by
   simp only[A3,Ar];omega
  rcases g with g|⟨g,Q⟩
  all_goals
   refine acQ 124 Tryz.func110 rfl rfl fun s _ _=> ?_
   (repeat'((conv=>whnf);first|refine zP ?_|refine zN ?_|refine Ej ?_|refine Ee ?_|refine Al d G0 ?_|exact zE))
 have u:∀x:El,(bod b x).length<=b.length:=fun x=>by unfold bod;rw[Ec,Eh];omega
 match l with
 |[]=>exact v (.inl Ab)
 |[_]=>exact v (.inl Ab)
 |_::_::_::_::_=>exact v (.inr Ab)
 |[x,y]=>
  clear v
  obtain⟨Y,W,V⟩:=i x Ab
  obtain⟨X,y2,y3⟩:=i y Ab
  have w:([x,y]:List El)[0]?=some x:=rfl
  have I:([x,y]:List El)[1]?=some y:=rfl
  have h:=Fo x 0 6 false
  have B:=Fo y 0 4 false
  have lx:=u x
  have Z:=u y
  have f:=G5 (bod b x) Aa
  have L:=Gq (bod b y) Aa
  simp only
  unfold exX
  obtain⟨p,e⟩:∃q,bod b x=q:=⟨_,rfl⟩
  obtain⟨q,A⟩:∃q,bod b y=q:=⟨_,rfl⟩
  rw[e,Ox] at f
  rw[A] at L
  rw[e,A]
  unfold bod at e A
  cases N:x.isB 0 6 false
  ·rw[N] at h
   rw[Aj rfl]
   refine acQ 124 Tryz.func110 rfl rfl fun s _ _=> ?_
   (repeat'((conv=>whnf);first|refine Ej ?_|refine Ee ?_|refine Al d G0 ?_|refine NIdx.tab (fun _=>rfl) w ?_|refine Al h rfl ?_|exact zE))
  rw[N] at h
  rw[Ai Ab]
  generalize odT p=t at f|-
  generalize odC p=k at f|-
  by_cases E:k≠0
  ·rw[Aj E]
   have M:((k:Int) !=0)=true:=by rw[Av];omega
   refine acQ 124 Tryz.func110 rfl rfl fun s _ _=> ?_
   (repeat'((conv=>whnf);first|refine zP ?_|refine zN ?_|refine Ej ?_|refine Ee ?_|refine Al d G0 ?_|refine NIdx.tab (fun _=>rfl) w ?_|refine Al h rfl ?_|(refine NSl.bytes x.body x.stop p e ?_)|refine Al f G0 ?_|refine zF ?_|exact zE))
  rw[Ai E]
  obtain rfl:k=0:=As.1 E
  cases K:y.isB 0 4 false
  ·rw[K] at B
   refine acQ 124 Tryz.func110 rfl rfl fun s _ _=> ?_
   (repeat'((conv=>whnf);first|refine Ej ?_|refine Ee ?_|refine Al d G0 ?_|refine NIdx.tab (fun _=>rfl) w ?_|refine NIdx.tab (fun _=>rfl) I ?_|refine Al h rfl ?_|refine Al B rfl ?_|(refine NSl.bytes x.body x.stop p e ?_)|refine Al f G0 ?_|(with_reducible refine NInt.i64 ?_)|refine zF ?_|exact zE))
  ·rw[K] at B
   refine acQ 124 Tryz.func110 rfl rfl fun s _ _=> ?_
   (repeat'((conv=>whnf);first|refine Ee ?_|refine Al d G0 ?_|refine NIdx.tab (fun _=>rfl) w ?_|refine NIdx.tab (fun _=>rfl) I ?_|refine Al h rfl ?_|refine Al B rfl ?_|(refine NSl.bytes x.body x.stop p e ?_)|(refine NSl.bytes y.body y.stop q A ?_)|refine Al f G0 ?_|refine Al L G0 ?_|(with_reducible refine NInt.i64 ?_)|refine zF ?_|exact zE))
 |[x,z,y]=>
  clear v
  obtain⟨Y,W,V⟩:=i x Ab
  obtain⟨X,y2,y3⟩:=i y Ab
  obtain⟨z1,z2,z3⟩:=i z Ab
  have w:([x,z,y]:List El)[0]?=some x:=rfl
  have I:([x,z,y]:List El)[1]?=some z:=rfl
  have Q:([x,z,y]:List El)[2]?=some y:=rfl
  have h:=Fo x 0 6 false
  have B:=Fo y 0 4 false
  have H:=Fo z 0 1 false
  have lx:=u x
  have Z:=u y
  have lz:=u z
  have f:=G5 (bod b x) Aa
  have L:=Gq (bod b y) Aa
  have j:=cT (bod b z) Aa
  simp only
  unfold exX
  simp only
  obtain⟨p,e⟩:∃q,bod b x=q:=⟨_,rfl⟩
  obtain⟨q,A⟩:∃q,bod b y=q:=⟨_,rfl⟩
  obtain⟨r,J⟩:∃q,bod b z=q:=⟨_,rfl⟩
  rw[e,Ox] at f
  rw[A] at L
  rw[J] at j
  rw[e,A,J]
  unfold bod at e A J
  cases N:x.isB 0 6 false
  ·rw[N] at h
   rw[Aj rfl]
   refine acQ 124 Tryz.func110 rfl rfl fun s _ _=> ?_
   (repeat'((conv=>whnf);first|refine Ej ?_|refine Ee ?_|refine Al d G0 ?_|refine NIdx.tab (fun _=>rfl) w ?_|refine Al h rfl ?_|exact zE))
  rw[N] at h
  rw[Ai Ab]
  generalize odT p=t at f|-
  generalize odC p=k at f|-
  by_cases E:k≠0
  ·rw[Aj E]
   have M:((k:Int) !=0)=true:=by rw[Av];omega
   refine acQ 124 Tryz.func110 rfl rfl fun s _ _=> ?_
   (repeat'((conv=>whnf);first|refine zP ?_|refine zN ?_|refine Ej ?_|refine Ee ?_|refine Al d G0 ?_|refine NIdx.tab (fun _=>rfl) w ?_|refine Al h rfl ?_|(refine NSl.bytes x.body x.stop p e ?_)|refine Al f G0 ?_|refine zF ?_|exact zE))
  rw[Ai E]
  obtain rfl:k=0:=As.1 E
  by_cases F:r=[255]
  ·subst F
   rw[eT,Aj rfl] at j
   cases U:z.isB 0 1 false
   ·rw[U] at H
    rw[C4,Aj rfl]
    refine acQ 124 Tryz.func110 rfl rfl fun s _ _=> ?_
    (repeat'((conv=>whnf);first|refine Ej ?_|refine Ee ?_|refine Al d G0 ?_|refine NIdx.tab (fun _=>rfl) w ?_|refine NIdx.tab (fun _=>rfl) I ?_|refine Al h rfl ?_|refine Al H rfl ?_|(refine NSl.bytes x.body x.stop p e ?_)|(refine NSl.bytes z.body z.stop _ J ?_)|refine Al f G0 ?_|refine Al j rfl ?_|refine zF ?_|exact zE))
   rw[U] at H
   rw[Ai Ab]
   cases K:y.isB 0 4 false
   ·rw[K] at B
    refine acQ 124 Tryz.func110 rfl rfl fun s _ _=> ?_
    (repeat'((conv=>whnf);first|refine Ej ?_|refine Ee ?_|refine Al d G0 ?_|refine NIdx.tab (fun _=>rfl) w ?_|refine NIdx.tab (fun _=>rfl) I ?_|refine NIdx.tab (fun _=>rfl) Q ?_|refine Al h rfl ?_|refine Al H rfl ?_|refine Al B rfl ?_|(refine NSl.bytes x.body x.stop p e ?_)|(refine NSl.bytes z.body z.stop _ J ?_)|refine Al f G0 ?_|refine Al j rfl ?_|(with_reducible refine NInt.i64 ?_)|refine zF ?_|exact zE))
   ·rw[K] at B
    refine acQ 124 Tryz.func110 rfl rfl fun s _ _=> ?_
    (repeat'((conv=>whnf);first|refine Ej ?_|refine Ee ?_|refine Al d G0 ?_|refine NIdx.tab (fun _=>rfl) w ?_|refine NIdx.tab (fun _=>rfl) I ?_|refine NIdx.tab (fun _=>rfl) Q ?_|refine Al h rfl ?_|refine Al H rfl ?_|refine Al B rfl ?_|(refine NSl.bytes x.body x.stop p e ?_)|(refine NSl.bytes z.body z.stop _ J ?_)|(refine NSl.bytes y.body y.stop q A ?_)|refine Al f G0 ?_|refine Al j rfl ?_|refine Al L G0 ?_|(with_reducible refine NInt.i64 ?_)|refine zF ?_|exact zE))
  ·rw[Aj (by rw[An.2 F,Dt])]
   have j:∃k:Nat,aC 150 [.d (By false r)] (.tup [bv false,iv k])/\(((k:Int) !=0)=true\/((k:Int) !=0)=false):=by
    rw[eT,Ai F] at j
    by_cases T:r=[0]
    ·rw[Aj T] at j;exact⟨0,j,.inr rfl⟩
    ·rw[Ai T] at j;exact⟨6,j,.inl rfl⟩
   obtain⟨k,j,M⟩:=j
   generalize z.isB 0 1 false=zi at H
   cases zi<;>rcases M with M|M
   all_goals
    refine acQ 124 Tryz.func110 rfl rfl fun s _ _=> ?_
    (repeat'((conv=>whnf);first|refine zP ?_|refine zN ?_|refine Ej ?_|refine Ee ?_|refine Al d G0 ?_|refine NIdx.tab (fun _=>rfl) w ?_|refine NIdx.tab (fun _=>rfl) I ?_|refine Al h rfl ?_|refine Al H rfl ?_|(refine NSl.bytes x.body x.stop p e ?_)|(refine NSl.bytes z.body z.stop r J ?_)|refine Al f G0 ?_|refine Al j G0 ?_|refine zF ?_|exact zE))
theorem lG (b:List UInt8):(Ua b).1.oid.length<=21*(b.length+1)/\(Ua b).1.val.length<=b.length/\(Ua b).2.2<=b.length:=by
 have d:=fun x=>Ez (b:=b) (c:=0) (n:=16) (x:=x)
 have f:=Hg b 0 16
 have e:∀x:El,(bod b x).length<=b.length:=fun x=>by unfold bod;rw[Ec,Eh];omega
 have X:∀x∈(Dn b 0 16).l,∀y∈(Dn b 0 16).l,∀m,(∀z,m=some z->z∈(Dn b 0 16).l)->(exX b x m y).1.oid.length<=21*(b.length+1)/\(exX b x m y).1.val.length<=b.length/\(exX b x m y).2.2<=b.length:=by
  intro x j y g m l
  obtain⟨E,v,r⟩:=d x j
  obtain⟨s,u,I⟩:=d y g
  have F:=jX (bod b x)
  have H:=e x
  have k3:=e y
  unfold exX
  split
  ·exact⟨Nat.zero_le _,Nat.zero_le _,Nat.zero_le _⟩
  split
  ·exact⟨Nat.zero_le _,Nat.zero_le _,by simp only;omega⟩
  split
  ·split
   ·exact⟨Nat.zero_le _,Nat.zero_le _,by simp only;omega⟩
   ·exact⟨by simp only;omega,k3,Nat.zero_le _⟩
  ·rename_i z
   obtain⟨q,B,A⟩:=d z (l z rfl)
   split
   ·exact⟨Nat.zero_le _,Nat.zero_le _,by simp only;omega⟩
   split
   ·exact⟨Nat.zero_le _,Nat.zero_le _,by simp only;omega⟩
   ·exact⟨by simp only;omega,k3,Nat.zero_le _⟩
 unfold Ua exQ
 split
 ·exact⟨Nat.zero_le _,Nat.zero_le _,f⟩
 ·split
  ·rename_i x y h
   exact X x (by rw[h];simp) y (by rw[h];simp) none (fun _ h=>by cases h)
  ·rename_i x z y h
   exact X x (by rw[h];simp) y (by rw[h];simp) (some z) (fun w i=>by cases i;rw[h];simp)
  ·exact⟨Nat.zero_le _,Nat.zero_le _,Nat.zero_le _⟩
def gw (r:List Ext×Nat×Nat):AV:= .tup [.d (Px r.1),erA r.2.1 r.2.2]
theorem dU (b:List UInt8) (hb:b.length<=150000):aC 62 [.d (By false b)] (gw (Ub b)):=by
 have s:=Fc b 0 16 Aa
 have h:=fun x=>Ez (b:=b) (c:=0) (n:=16) (x:=x)
 have r:=F4 b 0 16
 unfold Ub PP
 generalize Dn b 0 16=R at s h r|-
 obtain⟨l,c,o⟩:=R
 simp only at h r|-
 by_cases j:c≠0
 ·rw[lrA,Aj j] at s
  rw[Aj j]
  have Y:((c:Int) !=0)=true:=by rw[Av];omega
  refine acQ 58 Tryz.func62 rfl rfl fun L _ _=> ?_
  (repeat'((conv=>whnf);first|refine zP ?_|refine Al s G0 ?_|refine zF ?_|exact zE))
 rw[lrA,Ai j] at s
 rw[Ai j]
 generalize T:S2 b l []=R
 refine acQ 58 Tryz.func62 rfl rfl fun L _ _=> ?_
 (repeat'((conv=>whnf);first|refine Ee ?_|refine Al s G0 ?_));(all_goals(conv=>whnf))
 refine F2 [.s 6 3 201] (fun z:Nat×List Ext=>z.1<=l.length/\(z.2.length<=z.1/\∀x∈z.2,x.oid.length<=4000000)/\S2 b (l.drop z.1) z.2=R) (fun z=>l.length-z.1) (fun z=>⟨[(0,.d (By false b)),(3,.ptr 3 0),(6,Fy 6 3 201 exO z.2),(20,.d (Gw l)),(21,iv l.length),(22,iv z.1)],[(3,[iv 0,iv 0])],[(6,(z.2.length,3,201))]⟩) (0,[]) ⟨Ab,⟨Ab,fun x N=>by cases N⟩,T⟩ leQ ?_
 rintro⟨i,a⟩ ⟨O,⟨I,g⟩,d⟩
 simp only at O I g d
 by_cases v:i<l.length
 rotate_left
 ·have M:decide ((i:Int)<(l.length:Int))=false:=Ao Aa
  rw[Bp Aa,S2] at d
  subst d
  have B:=iE a Aa g
  cases K:eV a
  ·rw[K] at B
   (repeat'((conv=>whnf);first|refine zP ?_|refine zN ?_|refine Ej ?_|refine Ee ?_|refine Al B G0 ?_|exact zE))
  ·rw[K] at B
   (repeat'((conv=>whnf);first|refine zP ?_|refine zN ?_|refine Ej ?_|refine Ee ?_|refine Al B G0 ?_|exact zE))
 have M:decide ((i:Int)<(l.length:Int))=true:=Aq Aa
 obtain⟨x,F⟩:∃p,l[i]?=some p:=⟨_,Ev v⟩
 have J:l.drop i=x::l.drop (i+1):=by
  obtain⟨j,U⟩:=Ew.1 F
  rw[<-U];exact A5 j
 obtain⟨Z,W,V⟩:=h x (F9 F)
 rw[J,S2] at d
 have Q:(elO b x).length<=b.length:=Kr b x
 have E:=IK (elO b x) Aa
 have w:=lG (elO b x)
 obtain⟨q,A⟩:∃q,elO b x=q:=⟨_,rfl⟩
 rw[A] at E w d Q
 unfold elO at A
 generalize Ua q=p at E w d
 obtain⟨e,k,f⟩:=p
 simp only at w d
 by_cases H:k≠0
 ·rw[Aj H] at d
  subst d
  have X:((k:Int) !=0)=true:=by rw[Av];omega
  (repeat'((conv=>whnf);first|refine zP ?_|refine NIdx.tab (fun _=>rfl) F ?_|(refine NSl.bytes x.at' x.stop q A ?_)|refine Al E G0 ?_|(with_reducible refine NInt.i64 ?_)|refine zF ?_|exact zE))
 ·rw[Ai H] at d
  obtain rfl:k=0:=As.1 H
  (repeat'((conv=>whnf);first|refine zP ?_|refine zN ?_|refine Ej ?_|refine Ee ?_|refine NIdx.tab (fun _=>rfl) F ?_|(refine NSl.bytes x.at' x.stop q A ?_)|refine Al E G0 ?_|refine E4 exO e ?_|(with_reducible refine NInt.i64 ?_)));(all_goals(conv=>whnf))
  refine⟨(i+1,a++[e]),⟨v,⟨by simp only[En,D9,Ax];omega,fun y u=> ?_⟩,d⟩,by simp only;omega,?_⟩
  ·rcases Cm.1 u with u|u
   ·exact g y u
   ·obtain rfl:=Bh.1 u
    exact Bi w.1 Aa
  ·exact leQ
theorem Fz (h:p:=by first|rfl|(simp only[D8,AV.ren,AV.give,D.un,Ef,D7,D6,Ap,Am,Ak,Ea,Ed,Ep,Eo];first|done|rfl)):p:=h
theorem YV (c:List UInt8) (e:c.length<=100000000):aC 285 [.d (By false c)] (niA (Uc c)):=by
 have d:=Ve c e
 unfold Uc
 generalize Oc c=p at d|-
 obtain⟨n,v⟩:=p
 simp only
 cases v
 ·refine acQ 21 Tryz.func285 rfl rfl fun _ _ _=> ?_
  (repeat'((conv=>whnf);first|refine Ee ?_|refine Al d Fz ?_|exact zE))
 ·cases f:decide (0<=n)
  ·refine acQ 21 Tryz.func285 rfl rfl fun _ _ _=> ?_
   (repeat'((conv=>whnf);first|refine zP ?_|refine zN ?_|refine Ej ?_|refine Ee ?_|refine Al d Fz ?_|exact zE))
  ·refine acQ 21 Tryz.func285 rfl rfl fun _ _ _=> ?_
   (repeat'((conv=>whnf);first|refine zP ?_|refine zN ?_|refine Ej ?_|refine Ee ?_|refine Al d Fz ?_|exact zE))
theorem wA (c:List UInt8) (f:c.length<=100000000):aC 282 [.d (By false c)] (.tup [bv (eW c).1,bv (eW c).2]):=by
 have d:=cT c Aa
 unfold eW
 by_cases h:c=[255]
 ·subst h
  rw[eT,Aj rfl] at d
  refine acQ 17 Tryz.func282 rfl rfl fun _ _ _=> ?_
  (repeat'((conv=>whnf);first|refine Ej ?_|refine Al d rfl ?_|exact zE))
 ·rw[An.2 h]
  rw[eT,Ai h] at d
  by_cases e:c=[0]
  ·rw[Aj e] at d
   refine acQ 17 Tryz.func282 rfl rfl fun _ _ _=> ?_
   (repeat'((conv=>whnf);first|refine Ee ?_|refine Al d Fz ?_|exact zE))
  ·rw[Ai e] at d
   refine acQ 17 Tryz.func282 rfl rfl fun _ _ _=> ?_
   (repeat'((conv=>whnf);first|refine Ee ?_|refine Al d Fz ?_|exact zE))
def eX (c:List UInt8):List UInt8×Bool:=(c,YA c)
theorem QP (c:List UInt8) (f:c.length<=100000000):aC 263 [.d (By false c)] (bv (YA c)):=by
 have d:=Mb c f
 unfold YA
 cases e:T6 c
 ·rw[e] at d
  refine acQ 15 Tryz.func263 rfl rfl fun _ _ _=> ?_
  (repeat'((conv=>whnf);first|refine Ee ?_|refine Al d Fz ?_|exact zE))
 ·rw[e] at d
  have j:=qR c f e
  have i:=YT c
  by_cases h:c.length<=20
  ·have g:decide ((c.length:Int)<=20)=true:=Aq Aa
   rw[Aq h,<-i]
   refine acQ 15 Tryz.func263 rfl rfl fun _ _ _=> ?_
   (repeat'((conv=>whnf);first|refine zP ?_|refine zN ?_|refine Ej ?_|refine Ee ?_|refine Al d Fz ?_|refine Al j Fz ?_|exact zE))
  ·have g:decide ((c.length:Int)<=20)=false:=Ao Aa
   rw[Ao h]
   refine acQ 15 Tryz.func263 rfl rfl fun _ _ _=> ?_
   (repeat'((conv=>whnf);first|refine zP ?_|refine zN ?_|refine Ej ?_|refine Ee ?_|refine Al d Fz ?_|exact zE))
theorem QQ (c:List UInt8) (e:c.length<=100000000):aC 265 [.d (By false c)] (.tup [.d (By true (eX c).1),bv (eX c).2]):=by
 have d:=Gq c Aa
 have f:=QP c e
 refine acQ 8 Tryz.func265 rfl rfl fun _ _ _=> ?_
 (repeat'((conv=>whnf);first|refine Al d Fz ?_|refine Al f Fz ?_|exact zE))
theorem Vf (b:List UInt8) (x:El) (c n:Nat) (l:b.length<=100000000) (i:x.body<=x.stop) (j:x.stop<=b.length):aC 284 [.d (By false b),elA x,iv c,iv n,.d (.fn 285 [])] (niA (O9 0 b x c n Uc)):=by
 have d:=Fo x c n false
 have f:(bod b x).length<=100000000:=by unfold bod;rw[Ec,Eh];omega
 have e:=YV (bod b x) f
 unfold O9
 obtain⟨q,g⟩:∃q,bod b x=q:=⟨_,rfl⟩
 rw[g] at e|-
 unfold bod at g
 generalize Uc q=p at e|-
 obtain⟨v,k⟩:=p
 cases h:x.isB c n false
 ·rw[h] at d
  refine acQ 36 Tryz.func284 rfl rfl fun _ _ _=> ?_
  (repeat'((conv=>whnf);first|refine Ej ?_|refine Al d rfl ?_|exact zE))
 ·rw[h] at d
  cases k
  all_goals
   refine acQ 36 Tryz.func284 rfl rfl fun _ _ _=> ?_
   (repeat'((conv=>whnf);first|refine Ej ?_|refine Ee ?_|refine Al d rfl ?_|(refine NSl.bytes x.body x.stop q g ?_)|refine Al e Fz ?_|exact zE))
theorem wB (b:List UInt8) (x:El) (c n:Nat) (l:b.length<=100000000) (i:x.body<=x.stop) (j:x.stop<=b.length):aC 283 [.d (By false b),elA x,iv c,iv n,.d (.fn 282 [])] (.tup [bv (O9 false b x c n eW).1,bv (O9 false b x c n eW).2]):=by
 have d:=Fo x c n false
 have f:(bod b x).length<=100000000:=by unfold bod;rw[Ec,Eh];omega
 have e:=wA (bod b x) f
 unfold O9
 obtain⟨q,g⟩:∃q,bod b x=q:=⟨_,rfl⟩
 rw[g] at e|-
 unfold bod at g
 generalize eW q=p at e|-
 obtain⟨v,k⟩:=p
 cases h:x.isB c n false
 ·rw[h] at d
  refine acQ 36 Tryz.func283 rfl rfl fun _ _ _=> ?_
  (repeat'((conv=>whnf);first|refine Ej ?_|refine Al d rfl ?_|exact zE))
 ·rw[h] at d
  cases k
  all_goals
   refine acQ 36 Tryz.func283 rfl rfl fun _ _ _=> ?_
   (repeat'((conv=>whnf);first|refine Ej ?_|refine Ee ?_|refine Al d rfl ?_|(refine NSl.bytes x.body x.stop q g ?_)|refine Al e Fz ?_|exact zE))
theorem wC (b:List UInt8) (x:El) (c n:Nat) (l:b.length<=100000000) (i:x.body<=x.stop) (j:x.stop<=b.length):aC 340 [.d (By false b),elA x,iv c,iv n,.d (.fn 265 [])] (.tup [.d (By true (O9 [] b x c n eX).1),bv (O9 [] b x c n eX).2]):=by
 have d:=Fo x c n false
 have f:(bod b x).length<=100000000:=by unfold bod;rw[Ec,Eh];omega
 have e:=QQ (bod b x) f
 unfold O9
 obtain⟨q,g⟩:∃q,bod b x=q:=⟨_,rfl⟩
 rw[g] at e|-
 unfold bod at g
 generalize eX q=p at e|-
 obtain⟨v,k⟩:=p
 cases h:x.isB c n false
 ·rw[h] at d
  refine acQ 36 Tryz.func340 rfl rfl fun _ _ _=> ?_
  (repeat'((conv=>whnf);first|refine Ej ?_|refine Al d rfl ?_|exact zE))
 ·rw[h] at d
  cases k
  all_goals
   refine acQ 36 Tryz.func340 rfl rfl fun _ _ _=> ?_
   (repeat'((conv=>whnf);first|refine Ej ?_|refine Ee ?_|refine Al d rfl ?_|(refine NSl.bytes x.body x.stop q g ?_)|refine Al e Fz ?_|exact zE))
theorem wD (b:List UInt8) (l:b.length<=100000000):aC 317 [.d (By false b),.d (.fn 285 [])] (.tup [iv (dL 0 b Uc).1,erA (dL 0 b Uc).2.1 (dL 0 b Uc).2.2]):=by
 have h:=Hj b Aa
 have d:=Fa b
 unfold dL
 generalize Em b=o at h d|-
 obtain⟨x,c,f⟩:=o
 simp only at d|-
 by_cases e:c≠0
 ·rw[Aj e]
  have g:((c:Int) !=0)=true:=by rw[Av];omega
  refine acQ 36 Tryz.func317 rfl rfl fun _ _ _=> ?_
  (repeat'((conv=>whnf);first|refine zP ?_|refine Al h Fz ?_|refine zF ?_|exact zE))
 obtain rfl:c=0:=As.1 e
 obtain⟨-,-,j,-,rfl⟩:=d.1 rfl
 have i:=Vf b x 0 2 l j d.2.2.2.2.2.1
 rw[Ai e]
 generalize O9 0 b x 0 2 Uc=p at i|-
 obtain⟨v,k⟩:=p
 cases k
 all_goals
  refine acQ 36 Tryz.func317 rfl rfl fun _ _ _=> ?_
  (repeat'((conv=>whnf);first|refine Ej ?_|refine Ee ?_|refine Al h Fz ?_|refine Al i Fz ?_|refine zF ?_|exact zE))
theorem wE (b:List UInt8) (l:b.length<=100000000):aC 264 [.d (By false b),.d (.fn 265 [])] (.tup [.d (By true (dL [] b eX).1),erA (dL [] b eX).2.1 (dL [] b eX).2.2]):=by
 have h:=Hj b Aa
 have d:=Fa b
 unfold dL
 generalize Em b=o at h d|-
 obtain⟨x,c,f⟩:=o
 simp only at d|-
 by_cases e:c≠0
 ·rw[Aj e]
  have g:((c:Int) !=0)=true:=by rw[Av];omega
  refine acQ 36 Tryz.func264 rfl rfl fun _ _ _=> ?_
  (repeat'((conv=>whnf);first|refine zP ?_|refine Al h Fz ?_|refine zF ?_|exact zE))
 obtain rfl:c=0:=As.1 e
 obtain⟨-,-,j,-,rfl⟩:=d.1 rfl
 have i:=wC b x 0 2 l j d.2.2.2.2.2.1
 rw[Ai e]
 generalize O9 [] b x 0 2 eX=p at i|-
 obtain⟨v,k⟩:=p
 cases k
 all_goals
  refine acQ 36 Tryz.func264 rfl rfl fun _ _ _=> ?_
  (repeat'((conv=>whnf);first|refine Ej ?_|refine Ee ?_|refine Al h Fz ?_|refine Al i Fz ?_|refine zF ?_|exact zE))
def nuR (r:List UInt8×Nat×Nat):AV:= .tup [.d (By true r.1),erA r.2.1 r.2.2]
def inR (r:Int×Nat×Nat):AV:= .tup [iv r.1,erA r.2.1 r.2.2]
theorem wF (b:List UInt8) (c:b.length<=100000000):aC 249 [.d (By false b)] (inR (XZ b)):=by
 have d:=wD b c
 unfold XZ
 refine acQ 8 Tryz.func249 rfl rfl fun _ _ _=> ?_
 (repeat'((conv=>whnf);refine Al d Fz ?_));(all_goals(conv=>whnf))
 all_goals exact zE
theorem dV (b:List UInt8) (c:b.length<=100000000):aC 203 [.d (By false b)] (nuR (QD b)):=by
 have d:=wE b c
 show Es _ _ _ (fun r=>r=nuR (dL [] b eX))
 refine acQ 8 Tryz.func203 rfl rfl fun _ _ _=> ?_
 (repeat'((conv=>whnf);refine Al d Fz ?_));(all_goals(conv=>whnf))
 all_goals exact zE
def baR (r:(Bool×Bool×Int)×Nat×Nat):AV:= .tup [.agg [bv r.1.1,bv r.1.2.1,iv r.1.2.2],erA r.2.1 r.2.2]
theorem wG (b:List UInt8) (A:b.length<=100000000):aC 221 [.d (By false b)] (baR (XX b)):=by
 have e:=Fc b 0 16 Aa
 have f:=fun x=>Ez (b:=b) (c:=0) (n:=16) (x:=x)
 unfold XX
 generalize Dn b 0 16=R at e f|-
 obtain⟨l,c,o⟩:=R
 simp only at f|-
 by_cases j:c≠0
 ·rw[lrA,Aj j] at e
  rw[Aj j]
  have L:((c:Int) !=0)=true:=by rw[Av];omega
  refine acQ 75 Tryz.func221 rfl rfl fun _ _ _=> ?_
  (repeat'((conv=>whnf);first|refine zP ?_|refine Al e Fz ?_|refine zF ?_|exact zE))
 rw[lrA,Ai j] at e
 rw[Ai j]
 unfold lc
 match l with
 |[]=>
  refine acQ 75 Tryz.func221 rfl rfl fun _ _ _=> ?_
  (repeat'((conv=>whnf);first|refine Ee ?_|refine Al e Fz ?_|exact zE))
 |x::r=>
  obtain⟨K,F,E⟩:=f x Ab
  have h:=wB b x 0 1 A F E
  have i:(x::r)[0]?=some x:=rfl
  simp only
  generalize O9 false b x 0 1 eW=p at h|-
  obtain⟨v,k⟩:=p
  cases k
  ·refine acQ 75 Tryz.func221 rfl rfl fun _ _ _=> ?_
   (repeat'((conv=>whnf);first|refine Ej ?_|refine Ee ?_|refine Al e Fz ?_|refine NIdx.tab (fun _=>rfl) i ?_|refine Al h Fz ?_|refine zF ?_|(refine NBr.mk (fun g=> ?_) (fun g=> ?_)<;>(have d:=g;(try simp only[zS] at d)<;>first|(exfalso;omega)|skip))|exact zE))
  simp only
  rw[Ai Ab]
  match r with
  |[]=>
   refine acQ 75 Tryz.func221 rfl rfl fun _ _ _=> ?_
   (repeat'((conv=>whnf);first|refine Ej ?_|refine Ee ?_|refine Al e Fz ?_|refine NIdx.tab (fun _=>rfl) i ?_|refine Al h Fz ?_|exact zE))
  |y::s=>
   obtain⟨J,I,H⟩:=f y Ab
   have u:=Vf b y 0 2 A I H
   have w:(x::y::s)[1]?=some y:=rfl
   simp only
   generalize O9 0 b y 0 2 Uc=q at u|-
   obtain⟨n,k⟩:=q
   cases k
   ·refine acQ 75 Tryz.func221 rfl rfl fun _ _ _=> ?_
    (repeat'((conv=>whnf);first|refine Ej ?_|refine Ee ?_|refine Al e Fz ?_|refine NIdx.tab (fun _=>rfl) i ?_|refine NIdx.tab (fun _=>rfl) w ?_|refine Al h Fz ?_|refine Al u Fz ?_|refine zF ?_|(refine NBr.mk (fun g=> ?_) (fun g=> ?_)<;>(have d:=g;(try simp only[zS] at d)<;>first|(exfalso;omega)|skip))|exact zE))
   simp only
   rw[Ai Ab]
   match s with
   |[]=>
    refine acQ 75 Tryz.func221 rfl rfl fun _ _ _=> ?_
    (repeat'((conv=>whnf);first|refine Ej ?_|refine Ee ?_|refine Al e Fz ?_|refine NIdx.tab (fun _=>rfl) i ?_|refine NIdx.tab (fun _=>rfl) w ?_|refine Al h Fz ?_|refine Al u Fz ?_|exact zE))
   |z::s=>
    have B:(x::y::z::s)[2]?=some z:=rfl
    refine acQ 75 Tryz.func221 rfl rfl fun _ _ _=> ?_
    (repeat'((conv=>whnf);first|refine Ee ?_|refine Al e Fz ?_|refine NIdx.tab (fun _=>rfl) i ?_|refine NIdx.tab (fun _=>rfl) w ?_|refine NIdx.tab (fun _=>rfl) B ?_|refine Al h Fz ?_|refine Al u Fz ?_|refine zF ?_|(refine NBr.mk (fun g=> ?_) (fun g=> ?_)<;>(have d:=g;(try simp only[zS] at d)<;>first|(exfalso;omega)|skip))|exact zE))
def skC (r i:Bool×Int):List AV:=[bv r.1,iv r.2,bv i.1,iv i.2]
def skR (r:((Bool×Int)×(Bool×Int))×Nat×Nat):AV:= .tup [.agg (skC r.1.1 r.1.2),erA r.2.1 r.2.2]
theorem wH (b:List UInt8) (U:b.length<=100000000):aC 244 [.d (By false b)] (skR (XY b)):=by
 have w:=Fc b 0 16 Aa
 have h:=fun x=>Ez (b:=b) (c:=0) (n:=16) (x:=x)
 have u:=F4 b 0 16
 unfold XY
 generalize Dn b 0 16=R at w h u|-
 obtain⟨l,c,o⟩:=R
 simp only at h u|-
 by_cases j:c≠0
 ·rw[lrA,Aj j] at w
  rw[Aj j]
  have V:((c:Int) !=0)=true:=by rw[Av];omega
  refine acQ 72 Tryz.func244 rfl rfl fun _ _ _=> ?_
  (repeat'((conv=>whnf);first|refine zP ?_|refine Al w Fz ?_|refine zF ?_|exact zE))
 rw[lrA,Ai j] at w
 rw[Ai j]
 generalize O:vV b l (-1) (false,0) (false,0)=R
 refine acQ 72 Tryz.func244 rfl rfl fun _ _ _=> ?_
 (repeat'((conv=>whnf);first|refine Ee ?_|refine Al w Fz ?_));(all_goals(conv=>whnf))
 refine Fh (fun z:Nat×Int×(Bool×Int)×(Bool×Int)=>z.1<=l.length/\vV b (l.drop z.1) z.2.1 z.2.2.1 z.2.2.2=R) (fun z=>l.length-z.1) (fun z=>⟨[(0,.d (By false b)),(2,.ptr 2 0),(3,.ptr 3 0),(6,.ptr 6 0),(7,iv z.2.1),(22,.d (Gw l)),(23,iv l.length),(24,iv z.1)],[(2,skC (false,0) (false,0)),(3,[iv 0,iv 0]),(6,skC z.2.2.1 z.2.2.2)],[]⟩) (0,-1,(false,0),(false,0)) ⟨Ab,O⟩ leQ ?_
 rintro⟨i,d,r,q⟩ ⟨N,e⟩
 simp only at N e
 by_cases g:i<l.length
 rotate_left
 ·have L:decide ((i:Int)<(l.length:Int))=false:=Ao Aa
  rw[Bp Aa,vV] at e
  subst e
  by_cases B:d<0
  ·have T:decide (d<0)=true:=Aq B
   rw[Aj B]
   (repeat'((conv=>whnf);first|refine zP ?_|refine zN ?_|refine Ej ?_|refine Ee ?_|exact zE))
  ·have T:decide (d<0)=false:=Ao B
   rw[Ai B]
   (repeat'((conv=>whnf);refine zN ?_));(all_goals(conv=>whnf))
   all_goals exact zE
 have L:decide ((i:Int)<(l.length:Int))=true:=Aq Aa
 obtain⟨x,f⟩:∃p,l[i]?=some p:=⟨_,Ev g⟩
 have F:l.drop i=x::l.drop (i+1):=by
  obtain⟨j,E⟩:=Ew.1 f
  rw[<-E];exact A5 j
 obtain⟨W,K,J⟩:=h x (F9 f)
 rw[F,vV] at e
 have s:=Vf b x 2 x.n U K J
 generalize O9 0 b x 2 x.n Uc=p at s e
 obtain⟨v,k⟩:=p
 simp only at e
 cases k
 ·rw[Aj Ab] at e
  subst e
  (repeat'((conv=>whnf);first|refine zP ?_|refine zN ?_|refine Ej ?_|refine Ee ?_|refine NIdx.tab (fun _=>rfl) f ?_|refine Al s Fz ?_|refine zF ?_|exact zE))
 by_cases E:1<x.n
 ·rw[Aj (by simp[E])] at e
  subst e
  have I:decide ((x.n:Int)>1)=true:=Aq Aa
  (repeat'((conv=>whnf);first|refine zP ?_|refine zN ?_|refine Ej ?_|refine Ee ?_|refine NIdx.tab (fun _=>rfl) f ?_|refine Al s Fz ?_|refine zF ?_|exact zE))
 have I:decide ((x.n:Int)>1)=false:=Ao Aa
 by_cases A:(x.n:Int)<=d
 ·rw[Aj (by simp[A])] at e
  subst e
  have M:decide ((x.n:Int)<=d)=true:=Aq A
  (repeat'((conv=>whnf);first|refine zP ?_|refine zN ?_|refine Ej ?_|refine Ee ?_|refine NIdx.tab (fun _=>rfl) f ?_|refine Al s Fz ?_|refine zF ?_|exact zE))
 have M:decide ((x.n:Int)<=d)=false:=Ao A
 rw[Ai (by simp[E,A])] at e
 by_cases H:x.n=0
 ·rw[Aj H] at e
  have Q:((x.n:Int)==0)=true:=by rw[A9];omega
  (repeat'((conv=>whnf);first|refine zP ?_|refine zN ?_|refine Ej ?_|refine Ee ?_|refine NIdx.tab (fun _=>rfl) f ?_|refine Al s Fz ?_|(with_reducible refine NInt.i64 ?_)));(all_goals(conv=>whnf))
  refine⟨(i+1,(x.n:Int),(true,v),q),⟨g,e⟩,by simp only;omega,?_⟩
  exact leQ
 ·rw[Ai H] at e
  have Q:((x.n:Int)==0)=false:=by rw[An];omega
  (repeat'((conv=>whnf);first|refine zP ?_|refine zN ?_|refine Ej ?_|refine Ee ?_|refine NIdx.tab (fun _=>rfl) f ?_|refine Al s Fz ?_|(with_reducible refine NInt.i64 ?_)));(all_goals(conv=>whnf))
  refine⟨(i+1,(x.n:Int),r,(true,v)),⟨g,e⟩,by simp only;omega,?_⟩
  exact leQ
def ukR (r:Nat×Nat×Nat):AV:= .tup [iv r.1,erA r.2.1 r.2.2]
theorem Ic (h:p:=by first|rfl|(simp only[D8,AV.ren,AV.give,D.un,Ef,D7,D6,Ap,Am,Ak,Ea,Ed,Ep,Eo];first|done|rfl)):p:=h
theorem QR (b:List UInt8) (B:b.length<=800000):aC 218 [.d (By false b)] (ukR (YB b)):=by
 have h:=Hj b Aa
 have j:=Fa b
 unfold YB
 generalize Em b=o at h j|-
 obtain⟨x,c,f⟩:=o
 simp only at j|-
 by_cases l:c≠0
 ·rw[Aj l]
  have g:((c:Int) !=0)=true:=by rw[Av];omega
  refine acQ 42 Tryz.func218 rfl rfl fun _ _ _=> ?_
  (repeat'((conv=>whnf);first|refine zP ?_|refine Al h Ic ?_|refine zF ?_|exact zE))
 obtain rfl:c=0:=As.1 l
 obtain⟨-,-,z,-,rfl⟩:=j.1 rfl
 have A:=j.2.2.2.2.2.1
 rw[Ai l]
 have e:=Fo x 0 3 false
 have w:(bod b x).length<=800000:=by unfold bod;rw[Ec,Eh];omega
 have d:=cS (bod b x) Aa
 obtain⟨q,i⟩:∃q,bod b x=q:=⟨_,rfl⟩
 rw[i] at d|-
 unfold bod at i
 cases r:x.isB 0 3 false
 ·rw[r] at e
  rw[Aj rfl]
  refine acQ 42 Tryz.func218 rfl rfl fun _ _ _=> ?_
  (repeat'((conv=>whnf);first|refine Ej ?_|refine Ee ?_|refine Al h Ic ?_|refine Al e rfl ?_|exact zE))
 rw[r] at e
 rw[Ai Ab]
 cases u:Wv q with
 |none=>
  rw[u] at d
  refine acQ 42 Tryz.func218 rfl rfl fun _ _ _=> ?_
  (repeat'((conv=>whnf);first|refine Ej ?_|refine Ee ?_|refine Al h Ic ?_|refine Al e rfl ?_|(refine NSl.bytes x.body x.stop q i ?_)|refine Al d Ic ?_|refine zF ?_|exact zE))
 |some s=>
  rw[u] at d
  simp only
  by_cases v:s=0
  ·subst v
   rw[Aj rfl]
   refine acQ 42 Tryz.func218 rfl rfl fun _ _ _=> ?_
   (repeat'((conv=>whnf);first|refine Ej ?_|refine Ee ?_|refine Al h Ic ?_|refine Al e rfl ?_|(refine NSl.bytes x.body x.stop q i ?_)|refine Al d Ic ?_|refine zF ?_|exact zE))
  ·rw[Ai v]
   have g:((s:Int)==0)=false:=by rw[An];omega
   refine acQ 42 Tryz.func218 rfl rfl fun _ _ _=> ?_
   (repeat'((conv=>whnf);first|refine zP ?_|refine zN ?_|refine Ej ?_|refine Ee ?_|refine Al h Ic ?_|refine Al e rfl ?_|(refine NSl.bytes x.body x.stop q i ?_)|refine Al d Ic ?_|exact zE))
def usR (r:List (List UInt8)×Nat×Nat):AV:= .tup [.d (Yt true r.1),erA r.2.1 r.2.2]
theorem YW (b:List UInt8) (V:b.length<=800000):aC 247 [.d (By false b)] (usR (YC b)):=by
 have j:=Fc b 0 16 Aa
 have e:=fun x=>Ez (b:=b) (c:=0) (n:=16) (x:=x)
 have h:=F4 b 0 16
 unfold YC
 generalize Dn b 0 16=R at j e h|-
 obtain⟨l,c,o⟩:=R
 simp only at e h|-
 by_cases f:c≠0
 ·rw[lrA,Aj f] at j
  rw[Aj f]
  have Q:((c:Int) !=0)=true:=by rw[Av];omega
  refine acQ 61 Tryz.func247 rfl rfl fun _ _ _=> ?_
  (repeat'((conv=>whnf);first|refine zP ?_|refine Al j Ic ?_|refine zF ?_|exact zE))
 rw[lrA,Ai f] at j
 rw[Ai f]
 generalize K:IC b l []=R
 refine acQ 61 Tryz.func247 rfl rfl fun _ _ _=> ?_
 (repeat'((conv=>whnf);first|refine Ee ?_|refine Al j Ic ?_));(all_goals(conv=>whnf))
 refine F2 [.s 6 1 9] (fun z:Nat×List (List UInt8)=>z.1<=l.length/\z.2.length<=z.1/\IC b (l.drop z.1) z.2=R) (fun z=>l.length-z.1) (fun z=>⟨[(0,.d (By false b)),(3,.ptr 3 0),(6,Fy 6 1 9 U0 z.2),(20,.d (Gw l)),(21,iv l.length),(22,iv z.1)],[(3,[iv 0,iv 0])],[(6,(z.2.length,1,9))]⟩) (0,[]) ⟨Ab,Ab,K⟩ leQ ?_
 rintro⟨i,a⟩ ⟨J,E,d⟩
 simp only at J E d
 by_cases u:i<l.length
 rotate_left
 ·have H:decide ((i:Int)<(l.length:Int))=false:=Ao Aa
  rw[Bp Aa,IC] at d
  subst d
  by_cases A:a=[]
  ·subst A
   rw[Aj rfl]
   (repeat'((conv=>whnf);first|refine zP ?_|refine zN ?_|refine Ej ?_|refine Ee ?_|exact zE))
  ·rw[Ai A]
   have T:((a.length:Int)==0)=false:=by rw[An];have:=List.length_pos_iff.2 A;omega
   (repeat'((conv=>whnf);refine zN ?_));(all_goals(conv=>whnf))
   all_goals exact zE
 have H:decide ((i:Int)<(l.length:Int))=true:=Aq Aa
 obtain⟨x,s⟩:∃p,l[i]?=some p:=⟨_,Ev u⟩
 have F:l.drop i=x::l.drop (i+1):=by
  obtain⟨f,L⟩:=Ew.1 s
  rw[<-L];exact A5 f
 obtain⟨U,N,M⟩:=e x (F9 s)
 rw[F,IC] at d
 have r:=Fo x 0 6 false
 have I:(bod b x).length<=800000:=by unfold bod;rw[Ec,Eh];omega
 have g:=G5 (bod b x) Aa
 obtain⟨q,w⟩:∃q,bod b x=q:=⟨_,rfl⟩
 rw[w] at g d
 unfold bod at w
 rw[Ox] at g
 generalize odT q=t at g d
 generalize odC q=k at g d
 cases v:x.isB 0 6 false
 ·rw[v] at r
  rw[Aj v] at d
  subst d
  (repeat'((conv=>whnf);first|refine zP ?_|refine zN ?_|refine Ej ?_|refine Ee ?_|refine NIdx.tab (fun _=>rfl) s ?_|refine Al r rfl ?_|refine zF ?_|exact zE))
 rw[v] at r
 rw[Ai (by rw[v];simp)] at d
 by_cases B:k≠0
 ·rw[Aj B] at d
  subst d
  have O:((k:Int) !=0)=true:=by rw[Av];omega
  (repeat'((conv=>whnf);first|refine zP ?_|refine zN ?_|refine Ej ?_|refine Ee ?_|refine NIdx.tab (fun _=>rfl) s ?_|refine Al r rfl ?_|(refine NSl.bytes x.body x.stop q w ?_)|refine Al g Ic ?_|refine zF ?_|exact zE))
 ·rw[Ai B] at d
  obtain rfl:k=0:=As.1 B
  (repeat'((conv=>whnf);first|refine zP ?_|refine zN ?_|refine Ej ?_|refine Ee ?_|refine NIdx.tab (fun _=>rfl) s ?_|refine Al r rfl ?_|(refine NSl.bytes x.body x.stop q w ?_)|refine Al g Ic ?_|refine E4 U0 t ?_|(with_reducible refine NInt.i64 ?_)));(all_goals(conv=>whnf))
  refine⟨(i+1,a++[t]),⟨u,by simp only[En,D9,Ax];omega,d⟩,by simp only;omega,?_⟩
  exact leQ
abbrev enL:List (List UInt8):=[[117,110,115,112,101,99,105,102,105,101,100],[107,101,121,67,111,109,112,114,111,109,105,115,101],[99,65,67,111,109,112,114,111,109,105,115,101],[97,102,102,105,108,105,97,116,105,111,110,67,104,97,110,103,101,100],[115,117,112,101,114,115,101,100,101,100],[99,101,115,115,97,116,105,111,110,79,102,79,112,101,114,97,116,105,111,110],[99,101,114,116,105,102,105,99,97,116,101,72,111,108,100],[],[114,101,109,111,118,101,70,114,111,109,67,82,76],[112,114,105,118,105,108,101,103,101,87,105,116,104,100,114,97,119,110],[97,65,67,111,109,112,114,111,109,105,115,101]]
theorem qU:aC 397 [] (.agg (enL.map sx)):=by
 refine acQ 2 Tryz.func397 rfl rfl fun _ _ _=> ?_
 (repeat'((conv=>whnf);refine Cs (Yz rfl rfl (ltN rfl) (Eg.ty rfl) (Eg.ty rfl) rfl rfl) ?_));(all_goals(conv=>whnf))
 all_goals exact zE
theorem wI (n:Nat) (d:n<=10):aC 356 [iv n] (sx (enL.getD n [])):=by
 have c:=qU
 rcases(by omega:n=0\/n=1\/n=2\/n=3\/n=4\/n=5\/n=6\/n=7\/n=8\/n=9\/n=10) with rfl|rfl|rfl|rfl|rfl|rfl|rfl|rfl|rfl|rfl|rfl
 all_goals
  refine acQ 14 Tryz.func356 rfl rfl fun _ _ _=> ?_
  (repeat'((conv=>whnf);first|refine Ee ?_|refine Al c rfl ?_|refine Cs (Fs _ rfl rfl (ltN rfl) (Eg.ty rfl).u (Eg.ty rfl) rfl rfl rfl (Ay rfl)) ?_|exact zE))
theorem Y1 (n:Nat) (d:n<=10):aC 286 [iv n] (bv (!(n==7))):=by
 have c:=wI n d
 have e:(!(enL.getD n []==[]))= !(n==7):=by
  rcases(by omega:n=0\/n=1\/n=2\/n=3\/n=4\/n=5\/n=6\/n=7\/n=8\/n=9\/n=10) with rfl|rfl|rfl|rfl|rfl|rfl|rfl|rfl|rfl|rfl|rfl<;>rfl
 rw[<-e]
 generalize enL.getD n []=s at c
 refine acQ 6 Tryz.func286 rfl rfl fun _ _ _=> ?_
 (repeat'((conv=>whnf);refine Al c rfl ?_));(all_goals(conv=>whnf))
 all_goals exact zE
theorem wJ (b:List UInt8) (K:b.length<=100000000):aC 223 [.d (By false b)] (inR (YE b)):=by
 have i:=Hj b Aa
 have l:=Fa b
 unfold YE YD
 generalize Em b=o at i l|-
 obtain⟨x,c,f⟩:=o
 simp only at l|-
 by_cases v:c≠0
 ·rw[Aj v]
  have g:((c:Int) !=0)=true:=by rw[Av];omega
  refine acY 11 [287,288,289] Tryz.func223 rfl rfl fun _ _ _=> ?_
  (repeat'((conv=>whnf);first|refine zP ?_|refine inY 100 39 [287,288,289] Tryz.func287 rfl rfl rfl rfl fun d=> ?_|refine Al i Ic ?_|refine zF ?_|exact zE))
 obtain rfl:c=0:=As.1 v
 obtain⟨-,-,F,-,rfl⟩:=l.1 rfl
 have I:=l.2.2.2.2.2.1
 rw[Ai v]
 have e:=Fo x 0 10 false
 have s:(bod b x).length<=100000000:=by unfold bod;rw[Ec,Eh];omega
 have j:=Ve (bod b x) s
 obtain⟨q,r⟩:∃q,bod b x=q:=⟨_,rfl⟩
 rw[r] at j|-
 unfold bod at r
 cases A:x.isB 0 10 false
 ·rw[A] at e
  rw[Aj rfl]
  refine acY 11 [287,288,289] Tryz.func223 rfl rfl fun _ _ _=> ?_
  (repeat'((conv=>whnf);first|refine Ej ?_|refine Ee ?_|refine inY 100 39 [287,288,289] Tryz.func287 rfl rfl rfl rfl fun d=> ?_|refine Al i Ic ?_|refine Al e rfl ?_|refine zF ?_|exact zE))
 rw[A] at e
 rw[Ai Ab]
 unfold lf
 generalize Oc q=p at j|-
 obtain⟨n,k⟩:=p
 simp only
 by_cases h:(k&&(decide (0<=n)&&(decide (n<=10)&& !(n==7))))=true
 ·rw[Aj h]
  simp only[Et,A3,Ca,An] at h
  obtain⟨rfl,E,J,H⟩:=h
  obtain⟨m,rfl⟩:∃m:Nat,n=(m:Int):=⟨n.toNat,Aa⟩
  have B:=Y1 m Aa
  rw[show(m==7)=false from An.2 Aa] at B
  have z:decide ((m:Int)<0)=false:=Ao Aa
  have w:decide ((m:Int)>10)=false:=Ao Aa
  refine acY 11 [287,288,289] Tryz.func223 rfl rfl fun _ _ _=> ?_
  (repeat'((conv=>whnf);first|refine zP ?_|refine zN ?_|refine Ej ?_|refine Ee ?_|refine inY 100 39 [287,288,289] Tryz.func287 rfl rfl rfl rfl fun d=> ?_|refine Jn 200 27 [287,288,289] Tryz.func288 rfl rfl rfl rfl rfl fun d=> ?_|refine Al i Ic ?_|refine Al e rfl ?_|(refine NSl.bytes x.body x.stop q r ?_)|refine Al j Ic ?_|refine Al B rfl ?_|refine zF ?_|exact zE))
 ·rw[Ai h]
  have u:=Y1 7 Aa
  have:k=false\/(k=true/\(decide (n<0)=true\/(decide (n<0)=false/\(decide (n>10)=true\/(decide (n>10)=false/\n=7))))):=by
   cases k
   ·exact .inl rfl
   ·simp only[Cd,Et,A3,Ca,An] at h
    simp only[A3,Ar,true_and];omega
  rcases this with rfl|⟨rfl,z|⟨z,w|⟨w,rfl⟩⟩⟩
  all_goals
   refine acY 11 [287,288,289] Tryz.func223 rfl rfl fun _ _ _=> ?_
   (repeat'((conv=>whnf);first|refine zP ?_|refine zN ?_|refine Ej ?_|refine Ee ?_|refine inY 100 39 [287,288,289] Tryz.func287 rfl rfl rfl rfl fun d=> ?_|refine Jn 200 27 [287,288,289] Tryz.func288 rfl rfl rfl rfl rfl fun d=> ?_|refine Al i Ic ?_|refine Al e rfl ?_|(refine NSl.bytes x.body x.stop q r ?_)|refine Al j Ic ?_|refine Al u rfl ?_|refine zF ?_|exact zE))
def daR (r:Tm×Nat×Nat):AV:= .tup [tmA r.1,erA r.2.1 r.2.2]
theorem wK (b:List UInt8) (A:b.length<=100000000):aC 226 [.d (By false b)] (daR (YF b)):=by
 have i:=Hj b Aa
 have j:=Fa b
 unfold YF YD
 generalize Em b=o at i j|-
 obtain⟨x,c,f⟩:=o
 simp only at j|-
 by_cases s:c≠0
 ·rw[Aj s]
  have g:((c:Int) !=0)=true:=by rw[Av];omega
  refine acY 11 [287,288,289] Tryz.func226 rfl rfl fun _ _ _=> ?_
  (repeat'((conv=>whnf);first|refine zP ?_|refine inY 100 39 [287,288,289] Tryz.func287 rfl rfl rfl rfl fun e=> ?_|refine Al i Ic ?_|refine zF ?_|exact zE))
 obtain rfl:c=0:=As.1 s
 obtain⟨-,-,w,-,rfl⟩:=j.1 rfl
 have z:=j.2.2.2.2.2.1
 rw[Ai s]
 have h:=Fo x 0 24 false
 have r:(bod b x).length<=100000000:=by unfold bod;rw[Ec,Eh];omega
 have d:=qQ (bod b x) r
 obtain⟨q,l⟩:∃q,bod b x=q:=⟨_,rfl⟩
 rw[l] at d|-
 unfold bod at l
 cases u:x.isB 0 24 false
 ·rw[u] at h
  rw[Aj rfl]
  refine acY 11 [287,288,289] Tryz.func226 rfl rfl fun _ _ _=> ?_
  (repeat'((conv=>whnf);first|refine Ej ?_|refine Ee ?_|refine inY 100 39 [287,288,289] Tryz.func287 rfl rfl rfl rfl fun e=> ?_|refine Al i Ic ?_|refine Al h rfl ?_|refine zF ?_|exact zE))
 rw[u] at h
 rw[Ai Ab]
 cases v:dH q with
 |none=>
  rw[v] at d
  refine acY 11 [287,288,289] Tryz.func226 rfl rfl fun _ _ _=> ?_
  (repeat'((conv=>whnf);first|refine Ej ?_|refine Ee ?_|refine inY 100 39 [287,288,289] Tryz.func287 rfl rfl rfl rfl fun e=> ?_|refine Jn 200 14 [287,288,289] Tryz.func289 rfl rfl rfl rfl rfl fun e=> ?_|refine Al i Ic ?_|refine Al h rfl ?_|(refine NSl.bytes x.body x.stop q l ?_)|refine Al d Ic ?_|refine zF ?_|exact zE))
 |some t=>
  rw[v] at d
  refine acY 11 [287,288,289] Tryz.func226 rfl rfl fun _ _ _=> ?_
  (repeat'((conv=>whnf);first|refine Ee ?_|refine inY 100 39 [287,288,289] Tryz.func287 rfl rfl rfl rfl fun e=> ?_|refine Jn 200 14 [287,288,289] Tryz.func289 rfl rfl rfl rfl rfl fun e=> ?_|refine Al i Ic ?_|refine Al h rfl ?_|(refine NSl.bytes x.body x.stop q l ?_)|refine Al d Ic ?_|refine zF ?_|exact zE))
end Go.Proofs.YtbedjionhmaafaaGreatDoor
