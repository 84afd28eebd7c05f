/- MS: the texts R13V R13M R13R, one behind the other. No condition but what each lemma says. -/
import Derived.Test.YtgamacmidohpfaaGreatDoorMR
set_option maxRecDepth 100000
set_option maxHeartbeats 16000000
namespace Go.Proofs.YtgamacmidohpfaaGreatDoor
open Go.RowKit
def stB (a b c d e:Bool) (g:Gn):Gn:=⟨0,if a then [] else g.oid,if b then [] else g.tx,if c then [] else g.by',if d then [] else g.nm,if e then 0 else g.ak,if e then [] else g.av,if e then 0 else g.pk,if e then [] else g.pv⟩
theorem GO {α:Type} [BEq α] (l:List α):((l.length:Int)==0)=decide (l=[]):=by
 cases l with
 |nil=>rfl
 |cons a r=>rw[decide_eq_false (by simp)];exact beq_eq_false_iff_ne.2 (by simp;omega)
theorem Ku (a b c d e:Bool) (g:Gn):decide (stB a b c d e g=gz)=alB a b c d e g:=by
 obtain⟨k,o,t,b1,n,ak,av,pk,pv⟩:=g
 unfold stB gz alB zT
 simp only[GO]
 rw[Bool.eq_iff_iff]
 cases a<;>cases b<;>cases c<;>cases d<;>cases e<;>simp[and_assoc]
def okG (g:Gn):Bool:=
 if g.k=0 then Es g.oid&&Ea g.by' else if g.k=1∨g.k=2∨g.k=6 then Ao 22 g.tx
 else if g.k=3 then Ea (Ai 2 3 true g.by') else if g.k=4 then nmV g.nm
 else if g.k=5 then(zT g.ak g.av||fiB g.ak g.av)&&fiB g.pk g.pv
 else if g.k=7 then ip g.by'.length else if g.k=8 then Es g.oid else false
theorem Hw {k:Int} {l:List UInt8} (h:fiB k l=true):Ao k l=true:=by unfold fiB at h;simp at h;exact h.1
theorem Il (g:Gn):gnW g=(okG g&&Cn g):=by
 rw[Bool.eq_iff_iff]
 unfold gnW okG Ri Ec G6
 simp only[Aw]
 by_cases h0:g.k=0
 ·rw[if_pos h0,if_pos h0,if_pos h0,h0];cases Es g.oid<;>simp;exact and_comm
 rw[if_neg h0,if_neg h0,if_neg h0]
 by_cases h1:g.k=1∨g.k=2∨g.k=6
 ·rw[if_pos h1,if_pos h1,if_neg (by omega),if_neg (by omega),show(g.k==5)=false from beq_eq_false_iff_ne.2 (by omega)];cases Ao 22 g.tx<;>simp
 rw[if_neg h1,if_neg h1]
 by_cases h3:g.k=3
 ·rw[if_pos h3,if_pos h3,if_pos (.inl h3),h3];simp;exact and_comm
 rw[if_neg h3,if_neg h3]
 by_cases h4:g.k=4
 ·rw[if_pos h4,if_neg (by omega),if_neg (by omega),if_pos h4,h4];cases nmV g.nm<;>simp
 rw[if_neg h4]
 by_cases h5:g.k=5
 ·rw[if_pos h5,if_neg (by omega),if_neg (by omega),if_neg h4,if_pos h5,h5]
  unfold L9
  constructor
  ·rintro⟨a,h0,h1,h⟩;exact⟨by simpa using h,a⟩
  ·rintro⟨h,a⟩
   rw[Aw] at h
   obtain⟨h1,h2⟩:=h
   refine⟨a,rfl,?_,by simp[h1,h2]⟩
   rw[if_pos]
   ·rfl
   ·rw[Aw]
    refine⟨?_,Hw h2⟩
    rcases Bool.or_eq_true_iff.1 h1 with h|h
    ·rw[h];rfl
    ·rw[Hw h,Bool.or_true]
 rw[if_neg h5]
 by_cases h7:g.k=7
 ·rw[if_pos h7,if_pos h7,if_pos (.inr h7),h7];simp;exact and_comm
 rw[if_neg h7,if_neg h7]
 rw[if_neg (by omega),if_neg h4,if_neg h5,show(g.k==5)=false from beq_eq_false_iff_ne.2 h5]
 by_cases h8:g.k=8
 ·rw[if_pos h8,if_pos h8];cases Es g.oid<;>simp
 ·rw[if_neg h8,if_neg h8];simp
theorem Kv {n:List (List Att)} (h:nmZ n):zX n:=⟨by have:=h.l;omega,fun r hr=>⟨by have:=(h.r r hr).l;omega,fun a ha=>⟨by have:=((h.r r hr).a a ha).v;omega⟩⟩⟩
structure Gn.zz (g:Gn):Prop where
 o:g.oid.length≤3000000
 t:g.tx.length≤3000000
 b:g.by'.length≤3000000
 n:nmZ g.nm
 a:g.av.length≤3000000
 p:g.pv.length≤3000000
theorem Gn.sm.z {g:Gn} (h:g.sm):g.zz:=⟨h.o,h.t,h.b,h.n,h.a,h.p⟩
theorem Gn.zz.s {g:Gn} (h:g.zz):g.sm:=⟨h.o,h.t,h.b,h.n,h.a,h.p⟩
theorem Gn.zz.q {g:Gn} (h:g.zz):g.eqs:=⟨by have:=h.b;omega,Kv h.n⟩
theorem Kw:gz.eqs:=⟨by simp[gz],by simp[gz,zX]⟩
theorem I5 {p:Prop} (h:p:=by first|rfl|(simp only[AV.gives,AV.ren,AV.give,D.un,D.uns,Al,Ak,List.nil_append,List.append_nil,List.cons_append,As,A0,Bb,A5,A2,Ba,Bi,Dn,Cq,C9,Cl];first|done|rfl)):p:=h
theorem Fm {p:Prop} (h:p:=by((try simp only[AV.gives,AV.ren,AV.give,D.un,D.uns,Al,Ak,List.nil_append,List.append_nil,List.cons_append,As,A0,Bb,A5,A2,Ba,Bi,Dn,Cq,C9,Cl]);(repeat'(first|exact trivial|exact Ay _|refine And.intro ?_ ?_|exact rfl|exact Or.inr rfl|exact Or.inl rfl|exact Or.inl (by rfl)|omega|refine Or.inr ?_));first|done|fail)):p:=h
theorem DL {o t b1:List UInt8} {n:List (List Att)} {ak:Int} {av:List UInt8} {pk:Int} {pv:List UInt8} (hs:(⟨0,o,t,b1,n,ak,av,pk,pv⟩:Gn).zz):Ab Tryz.prog 45 [gnA ⟨0,o,t,b1,n,ak,av,pk,pv⟩] (fun r=>r=bv (gnW ⟨0,o,t,b1,n,ak,av,pk,pv⟩)):=by
 have hG:=Ds ⟨0,[],t,[],n,ak,av,pk,pv⟩ gz ⟨by simp,Kv hs.n⟩ Kw
 obtain⟨s1,s2,s3,s4,s5,s6⟩:=hs
 simp only at s1 s2 s3 s4 s5 s6
 rw[show decide ((⟨0,[],t,[],n,ak,av,pk,pv⟩:Gn)=gz)=Cn ⟨0,o,t,b1,n,ak,av,pk,pv⟩ from Ku true false true false false ⟨0,o,t,b1,n,ak,av,pk,pv⟩] at hG
 rw[Il,show okG ⟨0,o,t,b1,n,ak,av,pk,pv⟩=(Es o&&Ea b1) from rfl]
 generalize Cn _=A at hG⊢
 have hV:=Je o (by omega)
 have hO:=N6 b1 (by omega)
 cases h1:Es o
 ·rw[h1] at hV
  refine acQ 100 Tryz.func45 rfl rfl fun _ _ _=> ?_
  (repeat'((conv=>whnf);first|refine Ac ?_|refine Af ?_|refine Aa hV rfl ?_|exact zE))
 rw[h1] at hV
 cases h2:Ea b1
 ·rw[h2] at hO
  refine acQ 100 Tryz.func45 rfl rfl fun _ _ _=> ?_
  (repeat'((conv=>whnf);first|refine Ac ?_|refine Af ?_|refine Aa hV rfl ?_|refine Aa hO I5 ?_|exact zE))
 ·rw[h2] at hO
  refine acQ 100 Tryz.func45 rfl rfl fun _ _ _=> ?_
  (repeat'((conv=>whnf);first|refine Ac ?_|refine Aa hV rfl ?_|refine Aa hO I5 ?_|refine Bj hG Fm ?_|exact zE))
theorem DM {o t b1:List UInt8} {n:List (List Att)} {ak:Int} {av:List UInt8} {pk:Int} {pv:List UInt8} (hs:(⟨1,o,t,b1,n,ak,av,pk,pv⟩:Gn).zz):Ab Tryz.prog 45 [gnA ⟨1,o,t,b1,n,ak,av,pk,pv⟩] (fun r=>r=bv (gnW ⟨1,o,t,b1,n,ak,av,pk,pv⟩)):=by
 have hG:=Ds ⟨0,o,[],b1,n,ak,av,pk,pv⟩ gz ⟨by have:=hs.b;simp only at this⊢;omega,Kv hs.n⟩ Kw
 obtain⟨s1,s2,s3,s4,s5,s6⟩:=hs
 simp only at s1 s2 s3 s4 s5 s6
 rw[show decide ((⟨0,o,[],b1,n,ak,av,pk,pv⟩:Gn)=gz)=Cn ⟨1,o,t,b1,n,ak,av,pk,pv⟩ from Ku false true false false false ⟨1,o,t,b1,n,ak,av,pk,pv⟩] at hG
 rw[Il,show okG ⟨1,o,t,b1,n,ak,av,pk,pv⟩=(Ao 22 t) from rfl]
 generalize Cn _=A at hG⊢
 have hV:=Hh 22 t (by omega)
 cases h1:Ao 22 t
 ·rw[h1] at hV
  refine acQ 100 Tryz.func45 rfl rfl fun _ _ _=> ?_
  (repeat'((conv=>whnf);first|refine Ac ?_|refine Af ?_|refine Aa hV rfl ?_|exact zE))
 ·rw[h1] at hV
  refine acQ 100 Tryz.func45 rfl rfl fun _ _ _=> ?_
  (repeat'((conv=>whnf);first|refine Ac ?_|refine Af ?_|refine Aa hV rfl ?_|refine Bj hG Fm ?_|exact zE))
theorem DN {o t b1:List UInt8} {n:List (List Att)} {ak:Int} {av:List UInt8} {pk:Int} {pv:List UInt8} (hs:(⟨2,o,t,b1,n,ak,av,pk,pv⟩:Gn).zz):Ab Tryz.prog 45 [gnA ⟨2,o,t,b1,n,ak,av,pk,pv⟩] (fun r=>r=bv (gnW ⟨2,o,t,b1,n,ak,av,pk,pv⟩)):=by
 have hG:=Ds ⟨0,o,[],b1,n,ak,av,pk,pv⟩ gz ⟨by have:=hs.b;simp only at this⊢;omega,Kv hs.n⟩ Kw
 obtain⟨s1,s2,s3,s4,s5,s6⟩:=hs
 simp only at s1 s2 s3 s4 s5 s6
 rw[show decide ((⟨0,o,[],b1,n,ak,av,pk,pv⟩:Gn)=gz)=Cn ⟨2,o,t,b1,n,ak,av,pk,pv⟩ from Ku false true false false false ⟨2,o,t,b1,n,ak,av,pk,pv⟩] at hG
 rw[Il,show okG ⟨2,o,t,b1,n,ak,av,pk,pv⟩=(Ao 22 t) from rfl]
 generalize Cn _=A at hG⊢
 have hV:=Hh 22 t (by omega)
 cases h1:Ao 22 t
 ·rw[h1] at hV
  refine acQ 100 Tryz.func45 rfl rfl fun _ _ _=> ?_
  (repeat'((conv=>whnf);first|refine Ac ?_|refine Af ?_|refine Aa hV rfl ?_|exact zE))
 ·rw[h1] at hV
  refine acQ 100 Tryz.func45 rfl rfl fun _ _ _=> ?_
  (repeat'((conv=>whnf);first|refine Ac ?_|refine Af ?_|refine Aa hV rfl ?_|refine Bj hG Fm ?_|exact zE))
theorem DO {o t b1:List UInt8} {n:List (List Att)} {ak:Int} {av:List UInt8} {pk:Int} {pv:List UInt8} (hs:(⟨6,o,t,b1,n,ak,av,pk,pv⟩:Gn).zz):Ab Tryz.prog 45 [gnA ⟨6,o,t,b1,n,ak,av,pk,pv⟩] (fun r=>r=bv (gnW ⟨6,o,t,b1,n,ak,av,pk,pv⟩)):=by
 have hG:=Ds ⟨0,o,[],b1,n,ak,av,pk,pv⟩ gz ⟨by have:=hs.b;simp only at this⊢;omega,Kv hs.n⟩ Kw
 obtain⟨s1,s2,s3,s4,s5,s6⟩:=hs
 simp only at s1 s2 s3 s4 s5 s6
 rw[show decide ((⟨0,o,[],b1,n,ak,av,pk,pv⟩:Gn)=gz)=Cn ⟨6,o,t,b1,n,ak,av,pk,pv⟩ from Ku false true false false false ⟨6,o,t,b1,n,ak,av,pk,pv⟩] at hG
 rw[Il,show okG ⟨6,o,t,b1,n,ak,av,pk,pv⟩=(Ao 22 t) from rfl]
 generalize Cn _=A at hG⊢
 have hV:=Hh 22 t (by omega)
 cases h1:Ao 22 t
 ·rw[h1] at hV
  refine acQ 100 Tryz.func45 rfl rfl fun _ _ _=> ?_
  (repeat'((conv=>whnf);first|refine Ac ?_|refine Af ?_|refine Aa hV rfl ?_|exact zE))
 ·rw[h1] at hV
  refine acQ 100 Tryz.func45 rfl rfl fun _ _ _=> ?_
  (repeat'((conv=>whnf);first|refine Ac ?_|refine Af ?_|refine Aa hV rfl ?_|refine Bj hG Fm ?_|exact zE))
theorem DP {o t b1:List UInt8} {n:List (List Att)} {ak:Int} {av:List UInt8} {pk:Int} {pv:List UInt8} (hs:(⟨3,o,t,b1,n,ak,av,pk,pv⟩:Gn).zz):Ab Tryz.prog 45 [gnA ⟨3,o,t,b1,n,ak,av,pk,pv⟩] (fun r=>r=bv (gnW ⟨3,o,t,b1,n,ak,av,pk,pv⟩)):=by
 have hG:=Ds ⟨0,o,t,[],n,ak,av,pk,pv⟩ gz ⟨by simp,Kv hs.n⟩ Kw
 obtain⟨s1,s2,s3,s4,s5,s6⟩:=hs
 simp only at s1 s2 s3 s4 s5 s6
 rw[show decide ((⟨0,o,t,[],n,ak,av,pk,pv⟩:Gn)=gz)=Cn ⟨3,o,t,b1,n,ak,av,pk,pv⟩ from Ku false false true false false ⟨3,o,t,b1,n,ak,av,pk,pv⟩] at hG
 rw[Il,show okG ⟨3,o,t,b1,n,ak,av,pk,pv⟩=(Ea (Ai 2 3 true b1)) from rfl]
 generalize Cn _=A at hG⊢
 have hP:Ab Tryz.prog 32 [cv 163,.d (Ag false b1)] (fun r=>r=Be 0 5 (Ai 2 3 true b1)):=Df 163 b1 (by omega)
 have hl:=At 2 3 true b1 (by omega)
 have hV:=N6 (Ai 2 3 true b1) (by omega)
 cases h1:Ea (Ai 2 3 true b1)
 ·rw[h1] at hV
  refine acQ 100 Tryz.func45 rfl rfl fun _ _ _=> ?_
  (repeat'((conv=>whnf);first|refine Ac ?_|refine Af ?_|refine Aa hP I5 ?_|refine Aa hV I5 ?_|exact zE))
 ·rw[h1] at hV
  refine acQ 100 Tryz.func45 rfl rfl fun _ _ _=> ?_
  (repeat'((conv=>whnf);first|refine Ac ?_|refine Af ?_|refine Aa hP I5 ?_|refine Aa hV I5 ?_|refine Bj hG Fm ?_|exact zE))
theorem DQ {o t b1:List UInt8} {n:List (List Att)} {ak:Int} {av:List UInt8} {pk:Int} {pv:List UInt8} (hs:(⟨4,o,t,b1,n,ak,av,pk,pv⟩:Gn).zz):Ab Tryz.prog 45 [gnA ⟨4,o,t,b1,n,ak,av,pk,pv⟩] (fun r=>r=bv (gnW ⟨4,o,t,b1,n,ak,av,pk,pv⟩)):=by
 have hG:=Ds ⟨0,o,t,b1,[],ak,av,pk,pv⟩ gz ⟨by have:=hs.b;simp only at this⊢;omega,by simp[zX]⟩ Kw
 obtain⟨s1,s2,s3,s4,s5,s6⟩:=hs
 simp only at s1 s2 s3 s4 s5 s6
 rw[show decide ((⟨0,o,t,b1,[],ak,av,pk,pv⟩:Gn)=gz)=Cn ⟨4,o,t,b1,n,ak,av,pk,pv⟩ from Ku false false false true false ⟨4,o,t,b1,n,ak,av,pk,pv⟩] at hG
 rw[Il,show okG ⟨4,o,t,b1,n,ak,av,pk,pv⟩=(nmV n) from rfl]
 generalize Cn _=A at hG⊢
 have hV:=cF n s4
 cases h1:nmV n
 ·rw[h1] at hV
  refine acQ 100 Tryz.func45 rfl rfl fun _ _ _=> ?_
  (repeat'((conv=>whnf);first|refine Ac ?_|refine Af ?_|refine Aa hV I5 ?_|exact zE))
 ·rw[h1] at hV
  refine acQ 100 Tryz.func45 rfl rfl fun _ _ _=> ?_
  (repeat'((conv=>whnf);first|refine Ac ?_|refine Af ?_|refine Aa hV I5 ?_|refine Bj hG Fm ?_|exact zE))
theorem DR {o t b1:List UInt8} {n:List (List Att)} {ak:Int} {av:List UInt8} {pk:Int} {pv:List UInt8} (hs:(⟨8,o,t,b1,n,ak,av,pk,pv⟩:Gn).zz):Ab Tryz.prog 45 [gnA ⟨8,o,t,b1,n,ak,av,pk,pv⟩] (fun r=>r=bv (gnW ⟨8,o,t,b1,n,ak,av,pk,pv⟩)):=by
 have hG:=Ds ⟨0,[],t,b1,n,ak,av,pk,pv⟩ gz ⟨by have:=hs.b;simp only at this⊢;omega,Kv hs.n⟩ Kw
 obtain⟨s1,s2,s3,s4,s5,s6⟩:=hs
 simp only at s1 s2 s3 s4 s5 s6
 rw[show decide ((⟨0,[],t,b1,n,ak,av,pk,pv⟩:Gn)=gz)=Cn ⟨8,o,t,b1,n,ak,av,pk,pv⟩ from Ku true false false false false ⟨8,o,t,b1,n,ak,av,pk,pv⟩] at hG
 rw[Il,show okG ⟨8,o,t,b1,n,ak,av,pk,pv⟩=(Es o) from rfl]
 generalize Cn _=A at hG⊢
 have hV:=Je o (by omega)
 cases h1:Es o
 ·rw[h1] at hV
  refine acQ 100 Tryz.func45 rfl rfl fun _ _ _=> ?_
  (repeat'((conv=>whnf);first|refine Ac ?_|refine Af ?_|refine Aa hV rfl ?_|exact zE))
 ·rw[h1] at hV
  refine acQ 100 Tryz.func45 rfl rfl fun _ _ _=> ?_
  (repeat'((conv=>whnf);first|refine Ac ?_|refine Af ?_|refine Aa hV rfl ?_|refine Bj hG Fm ?_|exact zE))
theorem DS {o t b1:List UInt8} {n:List (List Att)} {ak:Int} {av:List UInt8} {pk:Int} {pv:List UInt8} (hs:(⟨5,o,t,b1,n,ak,av,pk,pv⟩:Gn).zz):Ab Tryz.prog 45 [gnA ⟨5,o,t,b1,n,ak,av,pk,pv⟩] (fun r=>r=bv (gnW ⟨5,o,t,b1,n,ak,av,pk,pv⟩)):=by
 have hG:=Ds ⟨0,o,t,b1,n,0,[],0,[]⟩ gz ⟨by have:=hs.b;simp only at this⊢;omega,Kv hs.n⟩ Kw
 obtain⟨s1,s2,s3,s4,s5,s6⟩:=hs
 simp only at s1 s2 s3 s4 s5 s6
 rw[show decide ((⟨0,o,t,b1,n,0,[],0,[]⟩:Gn)=gz)=Cn ⟨5,o,t,b1,n,ak,av,pk,pv⟩ from Ku false false false false true ⟨5,o,t,b1,n,ak,av,pk,pv⟩] at hG
 rw[Il,show okG ⟨5,o,t,b1,n,ak,av,pk,pv⟩=((zT ak av||fiB ak av)&&fiB pk pv) from rfl]
 generalize Cn _=A at hG⊢
 have hV:=Ws ak av (by omega)
 have hQ:=Ws pk pv (by omega)
 have hz:zT ak av=(ak==0&&av==[]):=rfl
 cases h1:zT ak av
 ·rw[h1] at hz
  have hz:=hz.symm
  cases h2:fiB ak av
  ·rw[h2] at hV
   refine acQ 100 Tryz.func45 rfl rfl fun _ _ _=> ?_
   (repeat'((conv=>whnf);first|refine zN ?_|refine Ac ?_|refine Af ?_|refine An (Dv rfl rfl (ltN rfl) rfl rfl) ?_|refine Aa hV rfl ?_|exact zE))
  ·rw[h2] at hV
   cases h3:fiB pk pv
   ·rw[h3] at hQ
    refine acQ 100 Tryz.func45 rfl rfl fun _ _ _=> ?_
    (repeat'((conv=>whnf);first|refine zN ?_|refine Ac ?_|refine Af ?_|refine An (Dv rfl rfl (ltN rfl) rfl rfl) ?_|refine Aa hV rfl ?_|refine Aa hQ rfl ?_|exact zE))
   ·rw[h3] at hQ
    refine acQ 100 Tryz.func45 rfl rfl fun _ _ _=> ?_
    (repeat'((conv=>whnf);first|refine zN ?_|refine Ac ?_|refine Af ?_|refine An (Dv rfl rfl (ltN rfl) rfl rfl) ?_|refine Aa hV rfl ?_|refine Aa hQ rfl ?_|refine Bj hG Fm ?_|exact zE))
 ·rw[h1] at hz
  have hz:=hz.symm
  cases h3:fiB pk pv
  ·rw[h3] at hQ
   refine acQ 100 Tryz.func45 rfl rfl fun _ _ _=> ?_
   (repeat'((conv=>whnf);first|refine zP ?_|refine Ac ?_|refine Af ?_|refine An (Dv rfl rfl (ltN rfl) rfl rfl) ?_|refine Aa hQ rfl ?_|exact zE))
  ·rw[h3] at hQ
   refine acQ 100 Tryz.func45 rfl rfl fun _ _ _=> ?_
   (repeat'((conv=>whnf);first|refine zP ?_|refine Ac ?_|refine Af ?_|refine An (Dv rfl rfl (ltN rfl) rfl rfl) ?_|refine Aa hQ rfl ?_|refine Bj hG Fm ?_|exact zE))
theorem DT {o t b1:List UInt8} {n:List (List Att)} {ak:Int} {av:List UInt8} {pk:Int} {pv:List UInt8} (hs:(⟨7,o,t,b1,n,ak,av,pk,pv⟩:Gn).zz):Ab Tryz.prog 45 [gnA ⟨7,o,t,b1,n,ak,av,pk,pv⟩] (fun r=>r=bv (gnW ⟨7,o,t,b1,n,ak,av,pk,pv⟩)):=by
 have hG:=Ds ⟨0,o,t,[],n,ak,av,pk,pv⟩ gz ⟨by simp,Kv hs.n⟩ Kw
 obtain⟨s1,s2,s3,s4,s5,s6⟩:=hs
 simp only at s1 s2 s3 s4 s5 s6
 rw[show decide ((⟨0,o,t,[],n,ak,av,pk,pv⟩:Gn)=gz)=Cn ⟨7,o,t,b1,n,ak,av,pk,pv⟩ from Ku false false true false false ⟨7,o,t,b1,n,ak,av,pk,pv⟩] at hG
 rw[Il,show okG ⟨7,o,t,b1,n,ak,av,pk,pv⟩=(ip b1.length) from rfl]
 generalize Cn _=A at hG⊢
 have e:ip b1.length=(((b1.length:Int)==4)||(((b1.length:Int)==8)||(((b1.length:Int)==16)||((b1.length:Int)==32)))):=by
  unfold ip;rw[Bool.eq_iff_iff];simp;omega
 rw[e]
 cases h1:((b1.length:Int)==4)
 ·cases h2:((b1.length:Int)==8)
  ·cases h3:((b1.length:Int)==16)
   ·cases h4:((b1.length:Int)==32)
    ·refine acQ 100 Tryz.func45 rfl rfl fun _ _ _=> ?_
     (repeat'((conv=>whnf);first|refine zN ?_|refine Ac ?_|refine Af ?_|exact zE))
    ·refine acQ 100 Tryz.func45 rfl rfl fun _ _ _=> ?_
     (repeat'((conv=>whnf);first|refine zP ?_|refine zN ?_|refine Ac ?_|refine Af ?_|refine Bj hG Fm ?_|exact zE))
   ·refine acQ 100 Tryz.func45 rfl rfl fun _ _ _=> ?_
    (repeat'((conv=>whnf);first|refine zP ?_|refine zN ?_|refine Ac ?_|refine Af ?_|refine Bj hG Fm ?_|exact zE))
  ·refine acQ 100 Tryz.func45 rfl rfl fun _ _ _=> ?_
   (repeat'((conv=>whnf);first|refine zP ?_|refine zN ?_|refine Ac ?_|refine Af ?_|refine Bj hG Fm ?_|exact zE))
 ·refine acQ 100 Tryz.func45 rfl rfl fun _ _ _=> ?_
  (repeat'((conv=>whnf);first|refine zP ?_|refine Ac ?_|refine Af ?_|refine Bj hG Fm ?_|exact zE))
theorem Fh (g:Gn) (hs:g.zz):Ab Tryz.prog 45 [gnA g] (fun r=>r=bv (gnW g)):=by
 by_cases hk:0≤g.k∧g.k≤8
 ·obtain⟨k,o,t,b1,n,ak,av,pk,pv⟩:=g
  simp only at hk
  rcases(by omega:k=0∨k=1∨k=2∨k=3∨k=4∨k=5∨k=6∨k=7∨k=8) with rfl|rfl|rfl|rfl|rfl|rfl|rfl|rfl|rfl
  ·exact DL hs
  ·exact DM hs
  ·exact DN hs
  ·exact DP hs
  ·exact DQ hs
  ·exact DS hs
  ·exact DO hs
  ·exact DT hs
  ·exact DR hs
 ·have e:gnW g=false:=by
   rw[Il,show okG g=false from ?_,Bool.false_and]
   unfold okG
   rw[if_neg (by omega),if_neg (by omega),if_neg (by omega),if_neg (by omega),if_neg (by omega),if_neg (by omega),if_neg (by omega)]
  rw[e]
  obtain⟨k,o,t,b1,n,ak,av,pk,pv⟩:=g
  simp only at hk
  have g0:(k==0)=false:=beq_eq_false_iff_ne.2 (by omega)
  have g1:(k==1)=false:=beq_eq_false_iff_ne.2 (by omega)
  have g2:(k==2)=false:=beq_eq_false_iff_ne.2 (by omega)
  have g3:(k==3)=false:=beq_eq_false_iff_ne.2 (by omega)
  have g4:(k==4)=false:=beq_eq_false_iff_ne.2 (by omega)
  have g5:(k==5)=false:=beq_eq_false_iff_ne.2 (by omega)
  have g6:(k==6)=false:=beq_eq_false_iff_ne.2 (by omega)
  have g7:(k==7)=false:=beq_eq_false_iff_ne.2 (by omega)
  have g8:(k==8)=false:=beq_eq_false_iff_ne.2 (by omega)
  refine acQ 100 Tryz.func45 rfl rfl fun _ _ _=> ?_
  (repeat'((conv=>whnf);first|refine zN ?_|refine Af ?_|exact zE))
theorem Ha {g:Gn} (h:gnW g=true):okG g=true:=by rw[Il] at h;simp at h;exact h.1
theorem uW {k:Int} {l:List UInt8} (h:fiB k l=true):0<k:=by
 have hv:=Hw h
 have hk:¬Aq k<0:=by unfold Ao at hv;simp at hv;omega
 rcases De k hk with rfl|rfl|rfl|rfl|rfl|rfl|rfl<;>omega
theorem uX {k:Int} {l:List UInt8} (h:fiB k l=true) (hl:l.length≤3000000):Ab Tryz.prog 76 [txA k l] (fun r=>r= .tup [Be 0 5 (txE k l),iv 0]):=by
 have:=uP k l (by omega)
 unfold frS at this
 rw[if_pos (Hw h)] at this
 exact this
theorem Cj {p:Prop} (h:p:=by first|rfl|(simp only[AV.gives,AV.ren,AV.give,D.un,D.uns,Al,Ak,List.nil_append,List.append_nil,List.cons_append,As,A0,Bb,A5,A2,Ba,Bi,Dn,Cq,C9,Cl];first|done|rfl)):p:=h
theorem DU {o t b1:List UInt8} {n:List (List Att)} {ak:Int} {av:List UInt8} {pk:Int} {pv:List UInt8} (hs:(⟨0,o,t,b1,n,ak,av,pk,pv⟩:Gn).zz) (hw:gnW ⟨0,o,t,b1,n,ak,av,pk,pv⟩=true):Ab Tryz.prog 52 [gnA ⟨0,o,t,b1,n,ak,av,pk,pv⟩] (fun r=>r= .tup [Be 0 5 (gnE ⟨0,o,t,b1,n,ak,av,pk,pv⟩),iv 0]):=by
 have hV:=Fh _ hs
 rw[hw] at hV
 have hok:=Ha hw
 clear hw
 obtain⟨s1,s2,s3,s4,s5,s6⟩:=hs
 simp only at s1 s2 s3 s4 s5 s6
 have hok:(Es o&&Ea b1)=true:=hok
 rw[Aw] at hok
 have hE:gnE ⟨0,o,t,b1,n,ak,av,pk,pv⟩=Ai 2 0 true (Ai 0 6 false (Bm o)++Ai 2 0 true b1):=by
  unfold gnE;rw[show Ec ⟨0,o,t,b1,n,ak,av,pk,pv⟩=some (Ai 0 6 false (Bm o)++Ai 2 0 true b1) from if_pos hok.1];rfl
 rw[hE]
 have k1:=Ex o
 have k2:=At 0 6 false (Bm o) (by omega)
 have k3:=At 2 0 true b1 (by omega)
 have hO:=Uc o (by omega)
 have hP:Ab Tryz.prog 32 [cv 160,.d (Ag false b1)] (fun r=>r=Be 0 5 (Ai 2 0 true b1)):=Df 160 b1 (by omega)
 have hQ:Ab Tryz.prog 34 [cv 160,.d (C7 [Qf o,Ai 2 0 true b1])] (fun r=>r=Be 0 5 (Ai 2 0 true (Ai 0 6 false (Bm o)++Ai 2 0 true b1))):=by
  have:=F6 160 [Qf o,Ai 2 0 true b1] (by simp) (by simp[Qf];omega)
  rw[show [Qf o,Ai 2 0 true b1].flatten=Ai 0 6 false (Bm o)++Ai 2 0 true b1 by simp[Qf]] at this
  exact this
 generalize Ai 2 0 true (Ai 0 6 false (Bm o)++Ai 2 0 true b1)=E at hQ⊢
 generalize Ai 2 0 true b1=e1 at hP hQ
 generalize Qf o=e2 at hO hQ
 clear hE hok
 refine acQ 106 Tryz.func52 rfl rfl fun _ _ _=> ?_
 (repeat'((conv=>whnf);first|refine Ac ?_|refine Af ?_|refine Aa hV Cj ?_|refine Aa hO rfl ?_|refine Aa hP Cj ?_|refine Aa hQ Cj ?_|(with_reducible refine NInt.i64 ?_)|(with_reducible refine NInt.u8 ?_)|refine zF ?_|exact zE))
theorem DV {o t b1:List UInt8} {n:List (List Att)} {ak:Int} {av:List UInt8} {pk:Int} {pv:List UInt8} (hs:(⟨1,o,t,b1,n,ak,av,pk,pv⟩:Gn).zz) (hw:gnW ⟨1,o,t,b1,n,ak,av,pk,pv⟩=true):Ab Tryz.prog 52 [gnA ⟨1,o,t,b1,n,ak,av,pk,pv⟩] (fun r=>r= .tup [Be 0 5 (gnE ⟨1,o,t,b1,n,ak,av,pk,pv⟩),iv 0]):=by
 have hV:=Fh _ hs
 rw[hw] at hV
 have hok:=Ha hw
 clear hw
 obtain⟨s1,s2,s3,s4,s5,s6⟩:=hs
 simp only at s1 s2 s3 s4 s5 s6
 have hok:Ao 22 t=true:=hok
 have hE:gnE ⟨1,o,t,b1,n,ak,av,pk,pv⟩=Ai 2 1 false (chS 22 t):=by
  unfold gnE;rw[show Ec ⟨1,o,t,b1,n,ak,av,pk,pv⟩=some (chS 22 t) from if_pos hok];rfl
 rw[hE]
 have hC:=Gp 22 t (by omega)
 rw[show Eb 22 t=chS 22 t by unfold Eb;rw[hok];rfl] at hC
 have h4:=F9 hok
 have hP:Ab Tryz.prog 32 [cv 129,.d (Ag false (chS 22 t))] (fun r=>r=Be 0 5 (Ai 2 1 false (chS 22 t))):=Df 129 (chS 22 t) (by omega)
 generalize Ai 2 1 false (chS 22 t)=E at hP⊢
 generalize chS 22 t=c at hC hP
 clear hE hok h4
 refine acQ 106 Tryz.func52 rfl rfl fun _ _ _=> ?_
 (repeat'((conv=>whnf);first|refine Af ?_|refine Aa hV Cj ?_|refine Aa hC rfl ?_|refine Aa hP Cj ?_|(with_reducible refine NInt.i64 ?_)|(with_reducible refine NInt.u8 ?_)|exact zE))
theorem DW {o t b1:List UInt8} {n:List (List Att)} {ak:Int} {av:List UInt8} {pk:Int} {pv:List UInt8} (hs:(⟨2,o,t,b1,n,ak,av,pk,pv⟩:Gn).zz) (hw:gnW ⟨2,o,t,b1,n,ak,av,pk,pv⟩=true):Ab Tryz.prog 52 [gnA ⟨2,o,t,b1,n,ak,av,pk,pv⟩] (fun r=>r= .tup [Be 0 5 (gnE ⟨2,o,t,b1,n,ak,av,pk,pv⟩),iv 0]):=by
 have hV:=Fh _ hs
 rw[hw] at hV
 have hok:=Ha hw
 clear hw
 obtain⟨s1,s2,s3,s4,s5,s6⟩:=hs
 simp only at s1 s2 s3 s4 s5 s6
 have hok:Ao 22 t=true:=hok
 have hE:gnE ⟨2,o,t,b1,n,ak,av,pk,pv⟩=Ai 2 2 false (chS 22 t):=by
  unfold gnE;rw[show Ec ⟨2,o,t,b1,n,ak,av,pk,pv⟩=some (chS 22 t) from if_pos hok];rfl
 rw[hE]
 have hC:=Gp 22 t (by omega)
 rw[show Eb 22 t=chS 22 t by unfold Eb;rw[hok];rfl] at hC
 have h4:=F9 hok
 have hP:Ab Tryz.prog 32 [cv 130,.d (Ag false (chS 22 t))] (fun r=>r=Be 0 5 (Ai 2 2 false (chS 22 t))):=Df 130 (chS 22 t) (by omega)
 generalize Ai 2 2 false (chS 22 t)=E at hP⊢
 generalize chS 22 t=c at hC hP
 clear hE hok h4
 refine acQ 106 Tryz.func52 rfl rfl fun _ _ _=> ?_
 (repeat'((conv=>whnf);first|refine Af ?_|refine Aa hV Cj ?_|refine Aa hC rfl ?_|refine Aa hP Cj ?_|(with_reducible refine NInt.i64 ?_)|(with_reducible refine NInt.u8 ?_)|exact zE))
theorem DX {o t b1:List UInt8} {n:List (List Att)} {ak:Int} {av:List UInt8} {pk:Int} {pv:List UInt8} (hs:(⟨6,o,t,b1,n,ak,av,pk,pv⟩:Gn).zz) (hw:gnW ⟨6,o,t,b1,n,ak,av,pk,pv⟩=true):Ab Tryz.prog 52 [gnA ⟨6,o,t,b1,n,ak,av,pk,pv⟩] (fun r=>r= .tup [Be 0 5 (gnE ⟨6,o,t,b1,n,ak,av,pk,pv⟩),iv 0]):=by
 have hV:=Fh _ hs
 rw[hw] at hV
 have hok:=Ha hw
 clear hw
 obtain⟨s1,s2,s3,s4,s5,s6⟩:=hs
 simp only at s1 s2 s3 s4 s5 s6
 have hok:Ao 22 t=true:=hok
 have hE:gnE ⟨6,o,t,b1,n,ak,av,pk,pv⟩=Ai 2 6 false (chS 22 t):=by
  unfold gnE;rw[show Ec ⟨6,o,t,b1,n,ak,av,pk,pv⟩=some (chS 22 t) from if_pos hok];rfl
 rw[hE]
 have hC:=Gp 22 t (by omega)
 rw[show Eb 22 t=chS 22 t by unfold Eb;rw[hok];rfl] at hC
 have h4:=F9 hok
 have hP:Ab Tryz.prog 32 [cv 134,.d (Ag false (chS 22 t))] (fun r=>r=Be 0 5 (Ai 2 6 false (chS 22 t))):=Df 134 (chS 22 t) (by omega)
 generalize Ai 2 6 false (chS 22 t)=E at hP⊢
 generalize chS 22 t=c at hC hP
 clear hE hok h4
 refine acQ 106 Tryz.func52 rfl rfl fun _ _ _=> ?_
 (repeat'((conv=>whnf);first|refine Af ?_|refine Aa hV Cj ?_|refine Aa hC rfl ?_|refine Aa hP Cj ?_|(with_reducible refine NInt.i64 ?_)|(with_reducible refine NInt.u8 ?_)|exact zE))
theorem DY {o t b1:List UInt8} {n:List (List Att)} {ak:Int} {av:List UInt8} {pk:Int} {pv:List UInt8} (hs:(⟨3,o,t,b1,n,ak,av,pk,pv⟩:Gn).zz) (hw:gnW ⟨3,o,t,b1,n,ak,av,pk,pv⟩=true):Ab Tryz.prog 52 [gnA ⟨3,o,t,b1,n,ak,av,pk,pv⟩] (fun r=>r= .tup [Be 0 5 (gnE ⟨3,o,t,b1,n,ak,av,pk,pv⟩),iv 0]):=by
 have hV:=Fh _ hs
 rw[hw] at hV
 have hok:=Ha hw
 clear hw
 obtain⟨s1,s2,s3,s4,s5,s6⟩:=hs
 simp only at s1 s2 s3 s4 s5 s6
 clear hok
 have hE:gnE ⟨3,o,t,b1,n,ak,av,pk,pv⟩=Ai 2 3 true (b1):=by
  unfold gnE;rw[show Ec ⟨3,o,t,b1,n,ak,av,pk,pv⟩=some (b1) from rfl];rfl
 rw[hE]
 have hP:Ab Tryz.prog 32 [cv 163,.d (Ag false b1)] (fun r=>r=Be 0 5 (Ai 2 3 true b1)):=Df 163 b1 (by omega)
 generalize Ai 2 3 true b1=E at hP⊢
 clear hE
 refine acQ 106 Tryz.func52 rfl rfl fun _ _ _=> ?_
 (repeat'((conv=>whnf);first|refine Ac ?_|refine Af ?_|refine Aa hV Cj ?_|refine Aa hP Cj ?_|(with_reducible refine NInt.i64 ?_)|(with_reducible refine NInt.u8 ?_)|exact zE))
theorem DZ {o t b1:List UInt8} {n:List (List Att)} {ak:Int} {av:List UInt8} {pk:Int} {pv:List UInt8} (hs:(⟨7,o,t,b1,n,ak,av,pk,pv⟩:Gn).zz) (hw:gnW ⟨7,o,t,b1,n,ak,av,pk,pv⟩=true):Ab Tryz.prog 52 [gnA ⟨7,o,t,b1,n,ak,av,pk,pv⟩] (fun r=>r= .tup [Be 0 5 (gnE ⟨7,o,t,b1,n,ak,av,pk,pv⟩),iv 0]):=by
 have hV:=Fh _ hs
 rw[hw] at hV
 have hok:=Ha hw
 clear hw
 obtain⟨s1,s2,s3,s4,s5,s6⟩:=hs
 simp only at s1 s2 s3 s4 s5 s6
 clear hok
 have hE:gnE ⟨7,o,t,b1,n,ak,av,pk,pv⟩=Ai 2 7 false (b1):=by
  unfold gnE;rw[show Ec ⟨7,o,t,b1,n,ak,av,pk,pv⟩=some (b1) from rfl];rfl
 rw[hE]
 have hP:Ab Tryz.prog 32 [cv 135,.d (Ag false b1)] (fun r=>r=Be 0 5 (Ai 2 7 false b1)):=Df 135 b1 (by omega)
 generalize Ai 2 7 false b1=E at hP⊢
 clear hE
 refine acQ 106 Tryz.func52 rfl rfl fun _ _ _=> ?_
 (repeat'((conv=>whnf);first|refine Ac ?_|refine Af ?_|refine Aa hV Cj ?_|refine Aa hP Cj ?_|(with_reducible refine NInt.i64 ?_)|(with_reducible refine NInt.u8 ?_)|exact zE))
theorem EA {o t b1:List UInt8} {n:List (List Att)} {ak:Int} {av:List UInt8} {pk:Int} {pv:List UInt8} (hs:(⟨4,o,t,b1,n,ak,av,pk,pv⟩:Gn).zz) (hw:gnW ⟨4,o,t,b1,n,ak,av,pk,pv⟩=true):Ab Tryz.prog 52 [gnA ⟨4,o,t,b1,n,ak,av,pk,pv⟩] (fun r=>r= .tup [Be 0 5 (gnE ⟨4,o,t,b1,n,ak,av,pk,pv⟩),iv 0]):=by
 have hV:=Fh _ hs
 rw[hw] at hV
 have hok:=Ha hw
 clear hw
 obtain⟨s1,s2,s3,s4,s5,s6⟩:=hs
 simp only at s1 s2 s3 s4 s5 s6
 have hok:nmV n=true:=hok
 have hE:gnE ⟨4,o,t,b1,n,ak,av,pk,pv⟩=Ai 2 4 true (nmE n):=by
  unfold gnE;rw[show Ec ⟨4,o,t,b1,n,ak,av,pk,pv⟩=some (nmE n) from if_pos hok];rfl
 rw[hE]
 have hM:=uQ n s4
 rw[if_pos hok] at hM
 have k1:=At 0 16 true ((n.map Cu).flatten) (by have:=s4.e;omega)
 have k2:(nmE n).length≤90000006:=by have:=s4.e;unfold nmE;omega
 have hP:Ab Tryz.prog 32 [cv 164,.d (Ag false (nmE n))] (fun r=>r=Be 0 5 (Ai 2 4 true (nmE n))):=Df 164 (nmE n) (by omega)
 generalize Ai 2 4 true (nmE n)=E at hP⊢
 generalize nmE n=c at hM hP
 clear hE hok k1 k2
 refine acQ 106 Tryz.func52 rfl rfl fun _ _ _=> ?_
 (repeat'((conv=>whnf);first|refine Ac ?_|refine Af ?_|refine Aa hV Cj ?_|refine Aa hM Cj ?_|refine Aa hP Cj ?_|(with_reducible refine NInt.i64 ?_)|(with_reducible refine NInt.u8 ?_)|exact zE))
theorem EB {o t b1:List UInt8} {n:List (List Att)} {ak:Int} {av:List UInt8} {pk:Int} {pv:List UInt8} (hs:(⟨8,o,t,b1,n,ak,av,pk,pv⟩:Gn).zz) (hw:gnW ⟨8,o,t,b1,n,ak,av,pk,pv⟩=true):Ab Tryz.prog 52 [gnA ⟨8,o,t,b1,n,ak,av,pk,pv⟩] (fun r=>r= .tup [Be 0 5 (gnE ⟨8,o,t,b1,n,ak,av,pk,pv⟩),iv 0]):=by
 have hV:=Fh _ hs
 rw[hw] at hV
 have hok:=Ha hw
 clear hw
 obtain⟨s1,s2,s3,s4,s5,s6⟩:=hs
 simp only at s1 s2 s3 s4 s5 s6
 have hok:Es o=true:=hok
 have hE:gnE ⟨8,o,t,b1,n,ak,av,pk,pv⟩=Ai 2 8 false (Bm o):=by
  unfold gnE;rw[show Ec ⟨8,o,t,b1,n,ak,av,pk,pv⟩=some (Bm o) from if_pos hok];rfl
 rw[hE]
 have hC:=Lx o (by omega)
 have k1:=Ex o
 have hP:Ab Tryz.prog 32 [cv 136,.d (Ag false (Bm o))] (fun r=>r=Be 0 5 (Ai 2 8 false (Bm o))):=Df 136 (Bm o) (by omega)
 generalize Ai 2 8 false (Bm o)=E at hP⊢
 generalize Bm o=c at hC hP
 clear hE hok k1
 refine acQ 106 Tryz.func52 rfl rfl fun _ _ _=> ?_
 (repeat'((conv=>whnf);first|refine Ac ?_|refine Af ?_|refine Aa hV Cj ?_|refine Aa hC rfl ?_|refine Aa hP Cj ?_|(with_reducible refine NInt.i64 ?_)|(with_reducible refine NInt.u8 ?_)|exact zE))
theorem EC {o t b1:List UInt8} {n:List (List Att)} {ak:Int} {av:List UInt8} {pk:Int} {pv:List UInt8} (hs:(⟨5,o,t,b1,n,ak,av,pk,pv⟩:Gn).zz) (hw:gnW ⟨5,o,t,b1,n,ak,av,pk,pv⟩=true):Ab Tryz.prog 52 [gnA ⟨5,o,t,b1,n,ak,av,pk,pv⟩] (fun r=>r= .tup [Be 0 5 (gnE ⟨5,o,t,b1,n,ak,av,pk,pv⟩),iv 0]):=by
 have hV:=Fh _ hs
 rw[hw] at hV
 have hok:=Ha hw
 clear hw
 obtain⟨s1,s2,s3,s4,s5,s6⟩:=hs
 simp only at s1 s2 s3 s4 s5 s6
 have hok:((zT ak av||fiB ak av)&&fiB pk pv)=true:=hok
 rw[Aw] at hok
 obtain⟨h1,h2⟩:=hok
 have hF:=uX h2 s6
 have l2:=Fx (Hw h2) s6
 have x2:=At 2 1 true (txE pk pv) (by omega)
 have hP1:Ab Tryz.prog 32 [cv 161,.d (Ag false (txE pk pv))] (fun r=>r=Be 0 5 (Ai 2 1 true (txE pk pv))):=Df 161 (txE pk pv) (by omega)
 cases hz:zT ak av
 ·rw[hz,Bool.false_or] at h1
  have hG:=uX h1 s5
  have l1:=Fx (Hw h1) s5
  have x1:=At 2 0 true (txE ak av) (by omega)
  have hP0:Ab Tryz.prog 32 [cv 160,.d (Ag false (txE ak av))] (fun r=>r=Be 0 5 (Ai 2 0 true (txE ak av))):=Df 160 (txE ak av) (by omega)
  have hE:gnE ⟨5,o,t,b1,n,ak,av,pk,pv⟩=Ju 165 [Ai 2 0 true (txE ak av),Ai 2 1 true (txE pk pv)].flatten:=by
   unfold gnE
   rw[show Ec ⟨5,o,t,b1,n,ak,av,pk,pv⟩=L9 ⟨5,o,t,b1,n,ak,av,pk,pv⟩ from rfl]
   unfold L9
   simp only
   rw[hz,Hw h1,Hw h2]
   show Ai 2 5 true (Ai 2 0 true (txE ak av)++Ai 2 1 true (txE pk pv))=_
   simp only[List.flatten_cons,List.flatten_nil,List.append_nil]
   rfl
  have hQ:=F6 165 [Ai 2 0 true (txE ak av),Ai 2 1 true (txE pk pv)] (by simp) (by simp;omega)
  rw[←hE] at hQ
  have hQ:Ab Tryz.prog 34 [cv 165,.d (C7 [Ai 2 0 true (txE ak av),Ai 2 1 true (txE pk pv)])] _:=hQ
  generalize gnE _=E at hQ⊢
  have g0:decide ((ak:Int)>0)=true:=decide_eq_true (uW h1)
  generalize Ai 2 0 true (txE ak av)=e0 at hP0 hQ x1
  generalize Ai 2 1 true (txE pk pv)=e1 at hP1 hQ x2
  generalize txE ak av=t0 at hG hP0 l1
  generalize txE pk pv=t1 at hF hP1 l2
  clear hE hz h1 h2
  refine acQ 106 Tryz.func52 rfl rfl fun _ _ _=> ?_
  (repeat'((conv=>whnf);first|refine zP ?_|refine Ac ?_|refine Af ?_|refine Aa hV Cj ?_|refine Aa hG rfl ?_|refine Aa hP0 Cj ?_|refine Aa hF rfl ?_|refine Aa hP1 Cj ?_|refine Mq Fe e0 ?_|refine A9 Fe e1 ?_|refine Aa hQ Cj ?_|(with_reducible refine NInt.i64 ?_)|(with_reducible refine NInt.u8 ?_)|exact zE))
 ·obtain⟨rfl,rfl⟩:=Qm.1 hz
  have hE:gnE ⟨5,o,t,b1,n,0,[],pk,pv⟩=Ju 165 [Ai 2 1 true (txE pk pv)].flatten:=by
   unfold gnE
   rw[show Ec ⟨5,o,t,b1,n,0,[],pk,pv⟩=L9 ⟨5,o,t,b1,n,0,[],pk,pv⟩ from rfl]
   unfold L9
   simp only
   rw[hz,Hw h2]
   show Ai 2 5 true ([]++Ai 2 1 true (txE pk pv))=_
   simp only[List.flatten_cons,List.flatten_nil,List.append_nil,List.nil_append]
   rfl
  have hQ:=F6 165 [Ai 2 1 true (txE pk pv)] (by simp) (by simp;omega)
  rw[←hE] at hQ
  have hQ:Ab Tryz.prog 34 [cv 165,.d (C7 [Ai 2 1 true (txE pk pv)])] _:=hQ
  generalize gnE _=E at hQ⊢
  generalize Ai 2 1 true (txE pk pv)=e1 at hP1 hQ x2
  generalize txE pk pv=t1 at hF hP1 l2
  clear hE hz h1 h2
  refine acQ 106 Tryz.func52 rfl rfl fun _ _ _=> ?_
  (repeat'((conv=>whnf);first|refine Ac ?_|refine Af ?_|refine Aa hV Cj ?_|refine Aa hF rfl ?_|refine Aa hP1 Cj ?_|refine Mq Fe e1 ?_|refine Aa hQ Cj ?_|(with_reducible refine NInt.i64 ?_)|(with_reducible refine NInt.u8 ?_)|exact zE))
theorem uY {g:Gn} (h:gnW g=true):g.k=0∨g.k=1∨g.k=2∨g.k=3∨g.k=4∨g.k=5∨g.k=6∨g.k=7∨g.k=8:=by
 have hok:=Ha h
 by_cases hk:g.k=0∨g.k=1∨g.k=2∨g.k=3∨g.k=4∨g.k=5∨g.k=6∨g.k=7∨g.k=8
 ·exact hk
 ·unfold okG at hok
  rw[if_neg (by omega),if_neg (by omega),if_neg (by omega),if_neg (by omega),if_neg (by omega),if_neg (by omega),if_neg (by omega)] at hok
  cases hok
theorem uZ (g:Gn) (hs:g.zz):Ab Tryz.prog 52 [gnA g] (fun r=>r=Qk (gnW g) (gnE g)):=by
 cases hw:gnW g
 ·have hV:=Fh g hs
  rw[hw] at hV
  clear hw
  refine acQ 106 Tryz.func52 rfl rfl fun _ _ _=> ?_
  (repeat'((conv=>whnf);first|refine Ac ?_|refine Aa hV Cj ?_|exact zE))
 ·show Ab Tryz.prog 52 [gnA g] (fun r=>r= .tup [Be 0 5 (gnE g),iv 0])
  have hk:=uY hw
  obtain⟨k,o,t,b1,n,ak,av,pk,pv⟩:=g
  simp only at hk
  rcases hk with rfl|rfl|rfl|rfl|rfl|rfl|rfl|rfl|rfl
  ·exact DU hs hw
  ·exact DV hs hw
  ·exact DW hs hw
  ·exact DY hs hw
  ·exact EA hs hw
  ·exact EC hs hw
  ·exact DX hs hw
  ·exact DZ hs hw
  ·exact EB hs hw
abbrev gnF (g:Gn):AV:= .agg [iv g.k,.d (sD g.oid),.d (sD g.tx),.d (Ag false g.by'),.d (Nm g.nm),iv g.ak,.d (sD g.av),iv g.pk,.d (sD g.pv)]
structure insOk (t:Tr):Prop where
 l:t.ks.length≤100000
 k:∀k∈t.ks,k.ok
 e:(Tr.encs t.ks).length≤800000000
theorem C1 {p:Prop} (h:p:=by first|rfl|(simp only[AV.gives,AV.ren,AV.give,D.un,D.uns,Al,Ak,List.nil_append,List.append_nil,List.cons_append,As,A0,Bb,A5,A2,Ba,Bi,Dn,Cq,C9,Cl,Tr.cellss_un];first|done|rfl)):p:=h
theorem cG (t:Tr) (ht:insOk t):Ab Tryz.prog 112 [trF t] (fun r=>r= .d (Ag true (Tr.encs t.ks))):=by
 obtain⟨h1,h2,h3⟩:=ht
 obtain⟨c,n,k,b,ks⟩:=t
 rw[Ca]
 simp only[Tr.ks] at h1 h2 h3⊢
 refine acQ 21 Tryz.func112 rfl rfl fun _ _ _=> ?_
 (all_goals(conv=>whnf))
 refine Bg [.s 3 1 5] (fun i:Nat=>i≤ks.length) (fun i=>ks.length-i) (fun i=>⟨[(1,.ptr 1 0),(3,Be 3 5 (Tr.encs (ks.take i))),(4,iv i)],[(1,[iv c,iv n,bv k,.d (Ag false b),.d (.sl false ks.length 5 (Tr.cellss false ks))])],[(3,((Tr.encs (ks.take i)).length,1,5))]⟩) 0 (by omega) leQ ?_
 rintro i hi
 have ht:=Tr.encs_le ks i
 by_cases hik:i<ks.length
 ·have gi:decide ((i:Int)<ks.length)=true:=decide_eq_true (by omega)
  obtain⟨x,hg⟩:∃p,ks[i]?=some p:=⟨_,Ar hik⟩
  have hs:=Tr.encs_snoc hg
  have ht2:=Tr.encs_le ks (i+1)
  rw[hs,Ap] at ht2
  have hB:=N5 x (h2 x (Bl hg)) (by omega)
  generalize x.enc=e at hB hs ht2
  generalize Tr.encs (ks.take i)=Q at hs ht ht2⊢
  obtain⟨c',n',k',b',ks'⟩:=x
  rw[Ca] at hB
  (repeat'((conv=>whnf);first|refine zP ?_|(refine Fd hg ?_)|refine Aa hB C1 ?_|(with_reducible refine NInt.i64 ?_)|(with_reducible refine NApp.bytes ?_)));(all_goals(conv=>whnf))
  refine⟨i+1,by omega,by omega,?_⟩
  rw[hs]
  exact leQ
 ·have gi:decide ((i:Int)<ks.length)=false:=decide_eq_false (by omega)
  obtain rfl:i=ks.length:=by omega
  rw[List.take_length]
  (repeat'((conv=>whnf);refine zN ?_));(all_goals(conv=>whnf))
  all_goals exact zE
structure Tr.gn (t:Tr):Prop where
 v:t.v.length≤30000
 k0:(t.kid 0).v.length≤30000
 i:insOk t
 i1:insOk (t.kid 1)
 nm:(t.kid 0).nm
 a:((t.kid 0).kid 0).v.length≤1000000
 p:((t.kid 1).kid 0).v.length≤1000000
theorem FV (t:Tr) (c n:Nat) (k:Bool):t.isB c n k=isT t c n k:=by
 obtain⟨c',n',k',b',ks'⟩:=t
 exact Bool.and_assoc _ _ _
theorem ED {c:Nat} {k:Bool} {b:List UInt8} {ks:List Tr} (ht:(Tr.mk c 0 k b ks).gn):Ab Tryz.prog 82 [trF (.mk c 0 k b ks)] (fun r=>r=gnF (Bn (.mk c 0 k b ks))):=by
 obtain⟨h1,h2,h3,h4,h5,h6,h7⟩:=ht
 have hK0:=I3 (.mk c 0 k b ks) 0 (by omega)
 have hK1:=I3 (.mk c 0 k b ks) 1 (by omega)
 have hR:=L2 _ h2
 have hI:=cG _ h4
 rw[show Bn (.mk c 0 k b ks)=⟨0,odT ((Tr.mk c 0 k b ks).kid 0).v,[],Tr.encs ((Tr.mk c 0 k b ks).kid 1).ks,[],0,[],0,[]⟩ from rfl]
 generalize odT _=o at hR⊢
 generalize Tr.encs _=e at hI⊢
 generalize (Tr.mk c 0 k b ks).kid 0=k0 at hK0 hR
 generalize (Tr.mk c 0 k b ks).kid 1=k1 at hK1 hI
 clear h1 h2 h3 h4 h5 h6 h7
 obtain⟨c0,n0,j0,b0,ks0⟩:=k0
 obtain⟨c1,n1,j1,b1,ks1⟩:=k1
 simp only[Ca] at hK0 hK1 hR hI⊢
 refine acQ 73 Tryz.func82 rfl rfl fun _ _ _=> ?_
 (repeat'((conv=>whnf);first|refine Ac ?_|refine Aa hK0 C1 ?_|refine Aa hR C1 ?_|refine Aa hK1 C1 ?_|refine Aa hI C1 ?_|exact zE))
theorem EE {c:Nat} {k:Bool} {b:List UInt8} {ks:List Tr} (ht:(Tr.mk c 1 k b ks).gn):Ab Tryz.prog 82 [trF (.mk c 1 k b ks)] (fun r=>r=gnF (Bn (.mk c 1 k b ks))):=by
 obtain⟨h1,h2,h3,h4,h5,h6,h7⟩:=ht
 have hD:=Hv 22 b (by have:=h1;simp only[Tr.v] at this;omega)
 rw[show Bn (.mk c 1 k b ks)=⟨1,[],Cm 22 b,[],[],0,[],0,[]⟩ from rfl]
 clear h1 h2 h3 h4 h5 h6 h7
 rw[Ca]
 refine acQ 73 Tryz.func82 rfl rfl fun _ _ _=> ?_
 (repeat'((conv=>whnf);first|refine Ac ?_|refine Af ?_|refine Aa hD C1 ?_|exact zE))
theorem EF {c:Nat} {k:Bool} {b:List UInt8} {ks:List Tr} (ht:(Tr.mk c 2 k b ks).gn):Ab Tryz.prog 82 [trF (.mk c 2 k b ks)] (fun r=>r=gnF (Bn (.mk c 2 k b ks))):=by
 obtain⟨h1,h2,h3,h4,h5,h6,h7⟩:=ht
 have hD:=Hv 22 b (by have:=h1;simp only[Tr.v] at this;omega)
 rw[show Bn (.mk c 2 k b ks)=⟨2,[],Cm 22 b,[],[],0,[],0,[]⟩ from rfl]
 clear h1 h2 h3 h4 h5 h6 h7
 rw[Ca]
 refine acQ 73 Tryz.func82 rfl rfl fun _ _ _=> ?_
 (repeat'((conv=>whnf);first|refine Ac ?_|refine Af ?_|refine Aa hD C1 ?_|exact zE))
theorem EG {c:Nat} {k:Bool} {b:List UInt8} {ks:List Tr} (ht:(Tr.mk c 6 k b ks).gn):Ab Tryz.prog 82 [trF (.mk c 6 k b ks)] (fun r=>r=gnF (Bn (.mk c 6 k b ks))):=by
 obtain⟨h1,h2,h3,h4,h5,h6,h7⟩:=ht
 have hD:=Hv 22 b (by have:=h1;simp only[Tr.v] at this;omega)
 rw[show Bn (.mk c 6 k b ks)=⟨6,[],Cm 22 b,[],[],0,[],0,[]⟩ from rfl]
 clear h1 h2 h3 h4 h5 h6 h7
 rw[Ca]
 refine acQ 73 Tryz.func82 rfl rfl fun _ _ _=> ?_
 (repeat'((conv=>whnf);first|refine Ac ?_|refine Af ?_|refine Aa hD C1 ?_|exact zE))
theorem EH {c:Nat} {k:Bool} {b:List UInt8} {ks:List Tr} (ht:(Tr.mk c 3 k b ks).gn):Ab Tryz.prog 82 [trF (.mk c 3 k b ks)] (fun r=>r=gnF (Bn (.mk c 3 k b ks))):=by
 obtain⟨h1,h2,h3,h4,h5,h6,h7⟩:=ht
 have hI:=cG _ h3
 rw[show Bn (.mk c 3 k b ks)=⟨3,[],[],Tr.encs (Tr.mk c 3 k b ks).ks,[],0,[],0,[]⟩ from rfl]
 generalize Tr.encs _=e at hI⊢
 clear h1 h2 h3 h4 h5 h6 h7
 simp only[Ca] at hI⊢
 refine acQ 73 Tryz.func82 rfl rfl fun _ _ _=> ?_
 (repeat'((conv=>whnf);first|refine Ac ?_|refine Af ?_|refine Aa hI C1 ?_|exact zE))
theorem EI {c:Nat} {k:Bool} {b:List UInt8} {ks:List Tr} (ht:(Tr.mk c 4 k b ks).gn):Ab Tryz.prog 82 [trF (.mk c 4 k b ks)] (fun r=>r=gnF (Bn (.mk c 4 k b ks))):=by
 obtain⟨h1,h2,h3,h4,h5,h6,h7⟩:=ht
 have hK0:=I3 (.mk c 4 k b ks) 0 (by omega)
 have hN:=uR _ h5
 rw[show Bn (.mk c 4 k b ks)=⟨4,[],[],[],Mb ((Tr.mk c 4 k b ks).kid 0),0,[],0,[]⟩ from rfl]
 generalize Mb _=nm at hN⊢
 generalize (Tr.mk c 4 k b ks).kid 0=k0 at hK0 hN
 clear h1 h2 h3 h4 h5 h6 h7
 obtain⟨c0,n0,j0,b0,ks0⟩:=k0
 simp only[Ca] at hK0 hN⊢
 refine acQ 73 Tryz.func82 rfl rfl fun _ _ _=> ?_
 (repeat'((conv=>whnf);first|refine Ac ?_|refine Af ?_|refine Aa hK0 C1 ?_|refine Aa hN C1 ?_|exact zE))
theorem EJ {c:Nat} {k:Bool} {b:List UInt8} {ks:List Tr} (ht:(Tr.mk c 7 k b ks).gn):Ab Tryz.prog 82 [trF (.mk c 7 k b ks)] (fun r=>r=gnF (Bn (.mk c 7 k b ks))):=by
 obtain⟨h1,h2,h3,h4,h5,h6,h7⟩:=ht
 rw[show Bn (.mk c 7 k b ks)=⟨7,[],[],b,[],0,[],0,[]⟩ from rfl]
 clear h1 h2 h3 h4 h5 h6 h7
 rw[Ca]
 refine acQ 73 Tryz.func82 rfl rfl fun _ _ _=> ?_
 (repeat'((conv=>whnf);first|refine Ac ?_|refine Af ?_|exact zE))
theorem EK {c:Nat} {k:Bool} {b:List UInt8} {ks:List Tr} (ht:(Tr.mk c 8 k b ks).gn):Ab Tryz.prog 82 [trF (.mk c 8 k b ks)] (fun r=>r=gnF (Bn (.mk c 8 k b ks))):=by
 obtain⟨h1,h2,h3,h4,h5,h6,h7⟩:=ht
 have hR:=L2 _ h1
 rw[show Bn (.mk c 8 k b ks)=⟨8,odT (Tr.mk c 8 k b ks).v,[],[],[],0,[],0,[]⟩ from rfl]
 generalize odT _=o at hR⊢
 clear h1 h2 h3 h4 h5 h6 h7
 simp only[Ca] at hR⊢
 refine acQ 73 Tryz.func82 rfl rfl fun _ _ _=> ?_
 (repeat'((conv=>whnf);first|refine Ac ?_|refine Af ?_|refine Aa hR C1 ?_|exact zE))
theorem EL {c:Nat} {k:Bool} {b:List UInt8} {ks:List Tr} (ht:(Tr.mk c 5 k b ks).gn):Ab Tryz.prog 82 [trF (.mk c 5 k b ks)] (fun r=>r=gnF (Bn (.mk c 5 k b ks))):=by
 obtain⟨h1,h2,h3,h4,h5,h6,h7⟩:=ht
 have hK0:=I3 (.mk c 5 k b ks) 0 (by omega)
 have hK1:=I3 (.mk c 5 k b ks) 1 (by omega)
 have hI:=AA ((Tr.mk c 5 k b ks).kid 0) 2 0 true
 rw[FV] at hI
 rw[show Bn (.mk c 5 k b ks)=if isT ((Tr.mk c 5 k b ks).kid 0) 2 0 true then⟨5,[],[],[],[],Nb (((Tr.mk c 5 k b ks).kid 0).kid 0),Nc (((Tr.mk c 5 k b ks).kid 0).kid 0),Nb (((Tr.mk c 5 k b ks).kid 1).kid 0),Nc (((Tr.mk c 5 k b ks).kid 1).kid 0)⟩ else⟨5,[],[],[],[],0,[],Nb (((Tr.mk c 5 k b ks).kid 0).kid 0),Nc (((Tr.mk c 5 k b ks).kid 0).kid 0)⟩ from rfl]
 generalize (Tr.mk c 5 k b ks).kid 0=k0 at hK0 hI h6⊢
 generalize (Tr.mk c 5 k b ks).kid 1=k1 at hK1 h7⊢
 have hJ0:=I3 k0 0 (by omega)
 have hJ1:=I3 k1 0 (by omega)
 have hS0:=cE _ h6
 have hS1:=cE _ h7
 generalize Nb (k0.kid 0)=a1 at hS0⊢
 generalize Nc (k0.kid 0)=a2 at hS0⊢
 generalize Nb (k1.kid 0)=p1 at hS1⊢
 generalize Nc (k1.kid 0)=p2 at hS1⊢
 generalize k0.kid 0=j0 at hJ0 hS0
 generalize k1.kid 0=j1 at hJ1 hS1
 clear h1 h2 h3 h4 h5 h6 h7
 cases hq:isT k0 2 0 true
 ·rw[hq] at hI
  rw[if_neg (by simp)]
  clear hq
  obtain⟨c0,n0,l0,b0,ks0⟩:=k0
  obtain⟨d0,m0,i0,x0,kt0⟩:=j0
  simp only[Ca] at hK0 hI hJ0 hS0⊢
  refine acQ 73 Tryz.func82 rfl rfl fun _ _ _=> ?_
  (repeat'((conv=>whnf);first|refine Ac ?_|refine Af ?_|refine Aa hK0 C1 ?_|refine Aa hI C1 ?_|refine Aa hJ0 C1 ?_|refine Aa hS0 C1 ?_|exact zE))
 ·rw[hq] at hI
  rw[if_pos rfl]
  clear hq
  obtain⟨c0,n0,l0,b0,ks0⟩:=k0
  obtain⟨d0,m0,i0,x0,kt0⟩:=j0
  obtain⟨c1,n1,l1,b1,ks1⟩:=k1
  obtain⟨d1,m1,i1,x1,kt1⟩:=j1
  simp only[Ca] at hK0 hK1 hI hJ0 hS0 hJ1 hS1⊢
  refine acQ 73 Tryz.func82 rfl rfl fun _ _ _=> ?_
  (repeat'((conv=>whnf);first|refine Ac ?_|refine Af ?_|refine Aa hK0 C1 ?_|refine Aa hI C1 ?_|refine Aa hJ0 C1 ?_|refine Aa hS0 C1 ?_|refine Aa hK1 C1 ?_|refine Aa hJ1 C1 ?_|refine Aa hS1 C1 ?_|exact zE))
theorem vA (t:Tr) (ht:t.gn):Ab Tryz.prog 82 [trF t] (fun r=>r=gnF (Bn t)):=by
 obtain⟨c,n,k,b,ks⟩:=t
 by_cases hn:n≤8
 ·rcases(by omega:n=0∨n=1∨n=2∨n=3∨n=4∨n=5∨n=6∨n=7∨n=8) with rfl|rfl|rfl|rfl|rfl|rfl|rfl|rfl|rfl
  ·exact ED ht
  ·exact EE ht
  ·exact EF ht
  ·exact EH ht
  ·exact EI ht
  ·exact EL ht
  ·exact EG ht
  ·exact EJ ht
  ·exact EK ht
 ·have e:Bn (.mk c n k b ks)=⟨n,[],[],[],[],0,[],0,[]⟩:=by
   obtain⟨m,rfl⟩:∃m,n=m+9:=⟨n-9,by omega⟩
   rfl
  rw[e,Ca]
  have g0:((n:Int)==0)=false:=beq_eq_false_iff_ne.2 (by omega)
  have g1:((n:Int)==1)=false:=beq_eq_false_iff_ne.2 (by omega)
  have g2:((n:Int)==2)=false:=beq_eq_false_iff_ne.2 (by omega)
  have g3:((n:Int)==3)=false:=beq_eq_false_iff_ne.2 (by omega)
  have g4:((n:Int)==4)=false:=beq_eq_false_iff_ne.2 (by omega)
  have g5:((n:Int)==5)=false:=beq_eq_false_iff_ne.2 (by omega)
  have g6:((n:Int)==6)=false:=beq_eq_false_iff_ne.2 (by omega)
  have g7:((n:Int)==7)=false:=beq_eq_false_iff_ne.2 (by omega)
  have g8:((n:Int)==8)=false:=beq_eq_false_iff_ne.2 (by omega)
  refine acQ 73 Tryz.func82 rfl rfl fun _ _ _=> ?_
  (repeat'((conv=>whnf);refine zN ?_));(all_goals(conv=>whnf))
  all_goals exact zE
end Go.Proofs.YtgamacmidohpfaaGreatDoor
