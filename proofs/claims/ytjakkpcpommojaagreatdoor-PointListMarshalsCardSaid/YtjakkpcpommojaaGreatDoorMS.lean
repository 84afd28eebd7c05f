/- MS: the texts R13V R13M R13R, one behind the other. No condition but what each lemma says. -/
import Derived.Test.YtjakkpcpommojaaGreatDoorMR
import Derived.Test.YtjakkpcpommojaaGreatDoorMP
set_option maxRecDepth 100000
set_option maxHeartbeats 16000000
namespace Go.Proofs.YtjakkpcpommojaaGreatDoor
open Go.RowKit
def stB (a b c d e:Bool) (g:Gn):Gn:=⟨0,if a then [] else g.oid,if b then [] else g.tx,if c then [] else g.by',if d then [] else g.nm,if e then 0 else g.ak,if e then [] else g.av,if e then 0 else g.pk,if e then [] else g.pv⟩
theorem MT {α:Type} [BEq α] (l:List α):((l.length:Int)==0)=decide (l=[]):=by
 cases l with
 |nil=>rfl
 |cons a r=>rw[decide_eq_false (by simp)];exact beq_eq_false_iff_ne.2 (by simp;omega)
theorem Ky (a b c d e:Bool) (g:Gn):decide (stB a b c d e g=gz)=alB a b c d e g:=by
 obtain⟨k,o,t,b1,n,ak,av,pk,pv⟩:=g
 unfold stB gz alB zT
 simp only[MT]
 rw[Bool.eq_iff_iff]
 cases a<;>cases b<;>cases c<;>cases d<;>cases e<;>simp[and_assoc]
def okG (g:Gn):Bool:=
 if g.k=0 then Ej g.oid&&Es g.by' else if g.k=1∨g.k=2∨g.k=6 then Al 22 g.tx
 else if g.k=3 then Es (Ah 2 3 true g.by') else if g.k=4 then nmV g.nm
 else if g.k=5 then(zT g.ak g.av||fiB g.ak g.av)&&fiB g.pk g.pv
 else if g.k=7 then ip g.by'.length else if g.k=8 then Ej g.oid else false
theorem H1 {k:Int} {l:List UInt8} (h:fiB k l=true):Al k l=true:=by unfold fiB at h;simp at h;exact h.1
theorem Iu (g:Gn):gnW g=(okG g&&Cg g):=by
 rw[Bool.eq_iff_iff]
 unfold gnW okG Rz D8 G9
 simp only[Bool.and_eq_true]
 by_cases h0:g.k=0
 ·rw[if_pos h0,if_pos h0,if_pos h0,h0];cases Ej g.oid<;>simp;exact and_comm
 rw[if_neg h0,if_neg h0,if_neg h0]
 by_cases h1:g.k=1∨g.k=2∨g.k=6
 ·rw[if_pos h1,if_pos h1,if_neg (by omega),if_neg (by omega),show(g.k==5)=false from beq_eq_false_iff_ne.2 (by omega)];cases Al 22 g.tx<;>simp
 rw[if_neg h1,if_neg h1]
 by_cases h3:g.k=3
 ·rw[if_pos h3,if_pos h3,if_pos (.inl h3),h3];simp;exact and_comm
 rw[if_neg h3,if_neg h3]
 by_cases h4:g.k=4
 ·rw[if_pos h4,if_neg (by omega),if_neg (by omega),if_pos h4,h4];cases nmV g.nm<;>simp
 rw[if_neg h4]
 by_cases h5:g.k=5
 ·rw[if_pos h5,if_neg (by omega),if_neg (by omega),if_neg h4,if_pos h5,h5]
  unfold Ob
  constructor
  ·rintro⟨a,h0,h1,h⟩;exact⟨by simpa using h,a⟩
  ·rintro⟨h,a⟩
   rw[Bool.and_eq_true] at h
   obtain⟨h1,h2⟩:=h
   refine⟨a,rfl,?_,by simp[h1,h2]⟩
   rw[if_pos]
   ·rfl
   ·rw[Bool.and_eq_true]
    refine⟨?_,H1 h2⟩
    rcases Bool.or_eq_true_iff.1 h1 with h|h
    ·rw[h];rfl
    ·rw[H1 h,Bool.or_true]
 rw[if_neg h5]
 by_cases h7:g.k=7
 ·rw[if_pos h7,if_pos h7,if_pos (.inr h7),h7];simp;exact and_comm
 rw[if_neg h7,if_neg h7]
 rw[if_neg (by omega),if_neg h4,if_neg h5,show(g.k==5)=false from beq_eq_false_iff_ne.2 h5]
 by_cases h8:g.k=8
 ·rw[if_pos h8,if_pos h8];cases Ej g.oid<;>simp
 ·rw[if_neg h8,if_neg h8];simp
theorem Kz {n:List (List Att)} (h:nmZ n):EJ n:=⟨by have:=h.l;omega,fun r hr=>⟨by have:=(h.r r hr).l;omega,fun a ha=>⟨by have:=((h.r r hr).a a ha).v;omega⟩⟩⟩
structure Gn.zz (g:Gn):Prop where
 o:g.oid.length≤3000000
 t:g.tx.length≤3000000
 b:g.by'.length≤3000000
 n:nmZ g.nm
 a:g.av.length≤3000000
 p:g.pv.length≤3000000
theorem Gn.sm.z {g:Gn} (h:g.sm):g.zz:=⟨h.o,h.t,h.b,h.n,h.a,h.p⟩
theorem Gn.zz.s {g:Gn} (h:g.zz):g.sm:=⟨h.o,h.t,h.b,h.n,h.a,h.p⟩
theorem Gn.zz.q {g:Gn} (h:g.zz):g.eqs:=⟨by have:=h.b;omega,Kz h.n⟩
theorem K1:gz.eqs:=⟨by simp[gz],by simp[gz,EJ]⟩
theorem Ja {p:Prop} (h:p:=by first|rfl|(simp only[AV.gives,AV.ren,AV.give,D.un,D.uns,Aj,Ak,List.nil_append,List.append_nil,List.cons_append,Ap,A0,Bk,A7,Ay,Bj,Bs,Bg,A9,Bx,A5];first|done|rfl)):p:=h
theorem Fe {p:Prop} (h:p:=by((try simp only[AV.gives,AV.ren,AV.give,D.un,D.uns,Aj,Ak,List.nil_append,List.append_nil,List.cons_append,Ap,A0,Bk,A7,Ay,Bj,Bs,Bg,A9,Bx,A5]);(repeat'(first|exact trivial|exact By _|refine And.intro ?_ ?_|exact rfl|exact Or.inr rfl|exact Or.inl rfl|exact Or.inl (by rfl)|omega|refine Or.inr ?_));first|done|fail)):p:=h
theorem JG {o t b1:List UInt8} {n:List (List Att)} {ak:Int} {av:List UInt8} {pk:Int} {pv:List UInt8} (hs:(⟨0,o,t,b1,n,ak,av,pk,pv⟩:Gn).zz):Ab Tryz.prog 72 [gnA ⟨0,o,t,b1,n,ak,av,pk,pv⟩] (fun r=>r=bv (gnW ⟨0,o,t,b1,n,ak,av,pk,pv⟩)):=by
 have hG:=Dj ⟨0,[],t,[],n,ak,av,pk,pv⟩ gz ⟨by simp,Kz hs.n⟩ K1
 obtain⟨s1,s2,s3,s4,s5,s6⟩:=hs
 simp only at s1 s2 s3 s4 s5 s6
 rw[show decide ((⟨0,[],t,[],n,ak,av,pk,pv⟩:Gn)=gz)=Cg ⟨0,o,t,b1,n,ak,av,pk,pv⟩ from Ky true false true false false ⟨0,o,t,b1,n,ak,av,pk,pv⟩] at hG
 rw[Iu,show okG ⟨0,o,t,b1,n,ak,av,pk,pv⟩=(Ej o&&Es b1) from rfl]
 generalize Cg _=A at hG⊢
 have hV:=Jm o (by omega)
 have hO:=N8 b1 (by omega)
 cases h1:Ej o
 ·rw[h1] at hV
  refine acQ 100 Tryz.func72 rfl rfl fun _ _ _=> ?_
  (repeat'((conv=>whnf);first|refine Ac ?_|refine Ae ?_|refine Aa hV rfl ?_|exact zE))
 rw[h1] at hV
 cases h2:Es b1
 ·rw[h2] at hO
  refine acQ 100 Tryz.func72 rfl rfl fun _ _ _=> ?_
  (repeat'((conv=>whnf);first|refine Ac ?_|refine Ae ?_|refine Aa hV rfl ?_|refine Aa hO Ja ?_|exact zE))
 ·rw[h2] at hO
  refine acQ 100 Tryz.func72 rfl rfl fun _ _ _=> ?_
  (repeat'((conv=>whnf);first|refine Ac ?_|refine Aa hV rfl ?_|refine Aa hO Ja ?_|refine A6 hG Fe ?_|exact zE))
theorem JH {o t b1:List UInt8} {n:List (List Att)} {ak:Int} {av:List UInt8} {pk:Int} {pv:List UInt8} (hs:(⟨1,o,t,b1,n,ak,av,pk,pv⟩:Gn).zz):Ab Tryz.prog 72 [gnA ⟨1,o,t,b1,n,ak,av,pk,pv⟩] (fun r=>r=bv (gnW ⟨1,o,t,b1,n,ak,av,pk,pv⟩)):=by
 have hG:=Dj ⟨0,o,[],b1,n,ak,av,pk,pv⟩ gz ⟨by have:=hs.b;simp only at this⊢;omega,Kz hs.n⟩ K1
 obtain⟨s1,s2,s3,s4,s5,s6⟩:=hs
 simp only at s1 s2 s3 s4 s5 s6
 rw[show decide ((⟨0,o,[],b1,n,ak,av,pk,pv⟩:Gn)=gz)=Cg ⟨1,o,t,b1,n,ak,av,pk,pv⟩ from Ky false true false false false ⟨1,o,t,b1,n,ak,av,pk,pv⟩] at hG
 rw[Iu,show okG ⟨1,o,t,b1,n,ak,av,pk,pv⟩=(Al 22 t) from rfl]
 generalize Cg _=A at hG⊢
 have hV:=Hq 22 t (by omega)
 cases h1:Al 22 t
 ·rw[h1] at hV
  refine acQ 100 Tryz.func72 rfl rfl fun _ _ _=> ?_
  (repeat'((conv=>whnf);first|refine Ac ?_|refine Ae ?_|refine Aa hV rfl ?_|exact zE))
 ·rw[h1] at hV
  refine acQ 100 Tryz.func72 rfl rfl fun _ _ _=> ?_
  (repeat'((conv=>whnf);first|refine Ac ?_|refine Ae ?_|refine Aa hV rfl ?_|refine A6 hG Fe ?_|exact zE))
theorem JI {o t b1:List UInt8} {n:List (List Att)} {ak:Int} {av:List UInt8} {pk:Int} {pv:List UInt8} (hs:(⟨2,o,t,b1,n,ak,av,pk,pv⟩:Gn).zz):Ab Tryz.prog 72 [gnA ⟨2,o,t,b1,n,ak,av,pk,pv⟩] (fun r=>r=bv (gnW ⟨2,o,t,b1,n,ak,av,pk,pv⟩)):=by
 have hG:=Dj ⟨0,o,[],b1,n,ak,av,pk,pv⟩ gz ⟨by have:=hs.b;simp only at this⊢;omega,Kz hs.n⟩ K1
 obtain⟨s1,s2,s3,s4,s5,s6⟩:=hs
 simp only at s1 s2 s3 s4 s5 s6
 rw[show decide ((⟨0,o,[],b1,n,ak,av,pk,pv⟩:Gn)=gz)=Cg ⟨2,o,t,b1,n,ak,av,pk,pv⟩ from Ky false true false false false ⟨2,o,t,b1,n,ak,av,pk,pv⟩] at hG
 rw[Iu,show okG ⟨2,o,t,b1,n,ak,av,pk,pv⟩=(Al 22 t) from rfl]
 generalize Cg _=A at hG⊢
 have hV:=Hq 22 t (by omega)
 cases h1:Al 22 t
 ·rw[h1] at hV
  refine acQ 100 Tryz.func72 rfl rfl fun _ _ _=> ?_
  (repeat'((conv=>whnf);first|refine Ac ?_|refine Ae ?_|refine Aa hV rfl ?_|exact zE))
 ·rw[h1] at hV
  refine acQ 100 Tryz.func72 rfl rfl fun _ _ _=> ?_
  (repeat'((conv=>whnf);first|refine Ac ?_|refine Ae ?_|refine Aa hV rfl ?_|refine A6 hG Fe ?_|exact zE))
theorem JJ {o t b1:List UInt8} {n:List (List Att)} {ak:Int} {av:List UInt8} {pk:Int} {pv:List UInt8} (hs:(⟨6,o,t,b1,n,ak,av,pk,pv⟩:Gn).zz):Ab Tryz.prog 72 [gnA ⟨6,o,t,b1,n,ak,av,pk,pv⟩] (fun r=>r=bv (gnW ⟨6,o,t,b1,n,ak,av,pk,pv⟩)):=by
 have hG:=Dj ⟨0,o,[],b1,n,ak,av,pk,pv⟩ gz ⟨by have:=hs.b;simp only at this⊢;omega,Kz hs.n⟩ K1
 obtain⟨s1,s2,s3,s4,s5,s6⟩:=hs
 simp only at s1 s2 s3 s4 s5 s6
 rw[show decide ((⟨0,o,[],b1,n,ak,av,pk,pv⟩:Gn)=gz)=Cg ⟨6,o,t,b1,n,ak,av,pk,pv⟩ from Ky false true false false false ⟨6,o,t,b1,n,ak,av,pk,pv⟩] at hG
 rw[Iu,show okG ⟨6,o,t,b1,n,ak,av,pk,pv⟩=(Al 22 t) from rfl]
 generalize Cg _=A at hG⊢
 have hV:=Hq 22 t (by omega)
 cases h1:Al 22 t
 ·rw[h1] at hV
  refine acQ 100 Tryz.func72 rfl rfl fun _ _ _=> ?_
  (repeat'((conv=>whnf);first|refine Ac ?_|refine Ae ?_|refine Aa hV rfl ?_|exact zE))
 ·rw[h1] at hV
  refine acQ 100 Tryz.func72 rfl rfl fun _ _ _=> ?_
  (repeat'((conv=>whnf);first|refine Ac ?_|refine Ae ?_|refine Aa hV rfl ?_|refine A6 hG Fe ?_|exact zE))
theorem JK {o t b1:List UInt8} {n:List (List Att)} {ak:Int} {av:List UInt8} {pk:Int} {pv:List UInt8} (hs:(⟨3,o,t,b1,n,ak,av,pk,pv⟩:Gn).zz):Ab Tryz.prog 72 [gnA ⟨3,o,t,b1,n,ak,av,pk,pv⟩] (fun r=>r=bv (gnW ⟨3,o,t,b1,n,ak,av,pk,pv⟩)):=by
 have hG:=Dj ⟨0,o,t,[],n,ak,av,pk,pv⟩ gz ⟨by simp,Kz hs.n⟩ K1
 obtain⟨s1,s2,s3,s4,s5,s6⟩:=hs
 simp only at s1 s2 s3 s4 s5 s6
 rw[show decide ((⟨0,o,t,[],n,ak,av,pk,pv⟩:Gn)=gz)=Cg ⟨3,o,t,b1,n,ak,av,pk,pv⟩ from Ky false false true false false ⟨3,o,t,b1,n,ak,av,pk,pv⟩] at hG
 rw[Iu,show okG ⟨3,o,t,b1,n,ak,av,pk,pv⟩=(Es (Ah 2 3 true b1)) from rfl]
 generalize Cg _=A at hG⊢
 have hP:Ab Tryz.prog 66 [cv 163,.d (Ag false b1)] (fun r=>r=A4 0 5 (Ah 2 3 true b1)):=C3 163 b1 (by omega)
 have hl:=Aq 2 3 true b1 (by omega)
 have hV:=N8 (Ah 2 3 true b1) (by omega)
 cases h1:Es (Ah 2 3 true b1)
 ·rw[h1] at hV
  refine acQ 100 Tryz.func72 rfl rfl fun _ _ _=> ?_
  (repeat'((conv=>whnf);first|refine Ac ?_|refine Ae ?_|refine Aa hP Ja ?_|refine Aa hV Ja ?_|exact zE))
 ·rw[h1] at hV
  refine acQ 100 Tryz.func72 rfl rfl fun _ _ _=> ?_
  (repeat'((conv=>whnf);first|refine Ac ?_|refine Ae ?_|refine Aa hP Ja ?_|refine Aa hV Ja ?_|refine A6 hG Fe ?_|exact zE))
theorem JL {o t b1:List UInt8} {n:List (List Att)} {ak:Int} {av:List UInt8} {pk:Int} {pv:List UInt8} (hs:(⟨4,o,t,b1,n,ak,av,pk,pv⟩:Gn).zz):Ab Tryz.prog 72 [gnA ⟨4,o,t,b1,n,ak,av,pk,pv⟩] (fun r=>r=bv (gnW ⟨4,o,t,b1,n,ak,av,pk,pv⟩)):=by
 have hG:=Dj ⟨0,o,t,b1,[],ak,av,pk,pv⟩ gz ⟨by have:=hs.b;simp only at this⊢;omega,by simp[EJ]⟩ K1
 obtain⟨s1,s2,s3,s4,s5,s6⟩:=hs
 simp only at s1 s2 s3 s4 s5 s6
 rw[show decide ((⟨0,o,t,b1,[],ak,av,pk,pv⟩:Gn)=gz)=Cg ⟨4,o,t,b1,n,ak,av,pk,pv⟩ from Ky false false false true false ⟨4,o,t,b1,n,ak,av,pk,pv⟩] at hG
 rw[Iu,show okG ⟨4,o,t,b1,n,ak,av,pk,pv⟩=(nmV n) from rfl]
 generalize Cg _=A at hG⊢
 have hV:=eV n s4
 cases h1:nmV n
 ·rw[h1] at hV
  refine acQ 100 Tryz.func72 rfl rfl fun _ _ _=> ?_
  (repeat'((conv=>whnf);first|refine Ac ?_|refine Ae ?_|refine Aa hV Ja ?_|exact zE))
 ·rw[h1] at hV
  refine acQ 100 Tryz.func72 rfl rfl fun _ _ _=> ?_
  (repeat'((conv=>whnf);first|refine Ac ?_|refine Ae ?_|refine Aa hV Ja ?_|refine A6 hG Fe ?_|exact zE))
theorem JM {o t b1:List UInt8} {n:List (List Att)} {ak:Int} {av:List UInt8} {pk:Int} {pv:List UInt8} (hs:(⟨8,o,t,b1,n,ak,av,pk,pv⟩:Gn).zz):Ab Tryz.prog 72 [gnA ⟨8,o,t,b1,n,ak,av,pk,pv⟩] (fun r=>r=bv (gnW ⟨8,o,t,b1,n,ak,av,pk,pv⟩)):=by
 have hG:=Dj ⟨0,[],t,b1,n,ak,av,pk,pv⟩ gz ⟨by have:=hs.b;simp only at this⊢;omega,Kz hs.n⟩ K1
 obtain⟨s1,s2,s3,s4,s5,s6⟩:=hs
 simp only at s1 s2 s3 s4 s5 s6
 rw[show decide ((⟨0,[],t,b1,n,ak,av,pk,pv⟩:Gn)=gz)=Cg ⟨8,o,t,b1,n,ak,av,pk,pv⟩ from Ky true false false false false ⟨8,o,t,b1,n,ak,av,pk,pv⟩] at hG
 rw[Iu,show okG ⟨8,o,t,b1,n,ak,av,pk,pv⟩=(Ej o) from rfl]
 generalize Cg _=A at hG⊢
 have hV:=Jm o (by omega)
 cases h1:Ej o
 ·rw[h1] at hV
  refine acQ 100 Tryz.func72 rfl rfl fun _ _ _=> ?_
  (repeat'((conv=>whnf);first|refine Ac ?_|refine Ae ?_|refine Aa hV rfl ?_|exact zE))
 ·rw[h1] at hV
  refine acQ 100 Tryz.func72 rfl rfl fun _ _ _=> ?_
  (repeat'((conv=>whnf);first|refine Ac ?_|refine Ae ?_|refine Aa hV rfl ?_|refine A6 hG Fe ?_|exact zE))
theorem JN {o t b1:List UInt8} {n:List (List Att)} {ak:Int} {av:List UInt8} {pk:Int} {pv:List UInt8} (hs:(⟨5,o,t,b1,n,ak,av,pk,pv⟩:Gn).zz):Ab Tryz.prog 72 [gnA ⟨5,o,t,b1,n,ak,av,pk,pv⟩] (fun r=>r=bv (gnW ⟨5,o,t,b1,n,ak,av,pk,pv⟩)):=by
 have hG:=Dj ⟨0,o,t,b1,n,0,[],0,[]⟩ gz ⟨by have:=hs.b;simp only at this⊢;omega,Kz hs.n⟩ K1
 obtain⟨s1,s2,s3,s4,s5,s6⟩:=hs
 simp only at s1 s2 s3 s4 s5 s6
 rw[show decide ((⟨0,o,t,b1,n,0,[],0,[]⟩:Gn)=gz)=Cg ⟨5,o,t,b1,n,ak,av,pk,pv⟩ from Ky false false false false true ⟨5,o,t,b1,n,ak,av,pk,pv⟩] at hG
 rw[Iu,show okG ⟨5,o,t,b1,n,ak,av,pk,pv⟩=((zT ak av||fiB ak av)&&fiB pk pv) from rfl]
 generalize Cg _=A at hG⊢
 have hV:=Xq ak av (by omega)
 have hQ:=Xq pk pv (by omega)
 have hz:zT ak av=(ak==0&&av==[]):=rfl
 cases h1:zT ak av
 ·rw[h1] at hz
  have hz:=hz.symm
  cases h2:fiB ak av
  ·rw[h2] at hV
   refine acQ 100 Tryz.func72 rfl rfl fun _ _ _=> ?_
   (repeat'((conv=>whnf);first|refine zN ?_|refine Ac ?_|refine Ae ?_|refine An (Dq rfl rfl (ltN rfl) rfl rfl) ?_|refine Aa hV rfl ?_|exact zE))
  ·rw[h2] at hV
   cases h3:fiB pk pv
   ·rw[h3] at hQ
    refine acQ 100 Tryz.func72 rfl rfl fun _ _ _=> ?_
    (repeat'((conv=>whnf);first|refine zN ?_|refine Ac ?_|refine Ae ?_|refine An (Dq rfl rfl (ltN rfl) rfl rfl) ?_|refine Aa hV rfl ?_|refine Aa hQ rfl ?_|exact zE))
   ·rw[h3] at hQ
    refine acQ 100 Tryz.func72 rfl rfl fun _ _ _=> ?_
    (repeat'((conv=>whnf);first|refine zN ?_|refine Ac ?_|refine Ae ?_|refine An (Dq rfl rfl (ltN rfl) rfl rfl) ?_|refine Aa hV rfl ?_|refine Aa hQ rfl ?_|refine A6 hG Fe ?_|exact zE))
 ·rw[h1] at hz
  have hz:=hz.symm
  cases h3:fiB pk pv
  ·rw[h3] at hQ
   refine acQ 100 Tryz.func72 rfl rfl fun _ _ _=> ?_
   (repeat'((conv=>whnf);first|refine zP ?_|refine Ac ?_|refine Ae ?_|refine An (Dq rfl rfl (ltN rfl) rfl rfl) ?_|refine Aa hQ rfl ?_|exact zE))
  ·rw[h3] at hQ
   refine acQ 100 Tryz.func72 rfl rfl fun _ _ _=> ?_
   (repeat'((conv=>whnf);first|refine zP ?_|refine Ac ?_|refine Ae ?_|refine An (Dq rfl rfl (ltN rfl) rfl rfl) ?_|refine Aa hQ rfl ?_|refine A6 hG Fe ?_|exact zE))
theorem JO {o t b1:List UInt8} {n:List (List Att)} {ak:Int} {av:List UInt8} {pk:Int} {pv:List UInt8} (hs:(⟨7,o,t,b1,n,ak,av,pk,pv⟩:Gn).zz):Ab Tryz.prog 72 [gnA ⟨7,o,t,b1,n,ak,av,pk,pv⟩] (fun r=>r=bv (gnW ⟨7,o,t,b1,n,ak,av,pk,pv⟩)):=by
 have hG:=Dj ⟨0,o,t,[],n,ak,av,pk,pv⟩ gz ⟨by simp,Kz hs.n⟩ K1
 obtain⟨s1,s2,s3,s4,s5,s6⟩:=hs
 simp only at s1 s2 s3 s4 s5 s6
 rw[show decide ((⟨0,o,t,[],n,ak,av,pk,pv⟩:Gn)=gz)=Cg ⟨7,o,t,b1,n,ak,av,pk,pv⟩ from Ky false false true false false ⟨7,o,t,b1,n,ak,av,pk,pv⟩] at hG
 rw[Iu,show okG ⟨7,o,t,b1,n,ak,av,pk,pv⟩=(ip b1.length) from rfl]
 generalize Cg _=A at hG⊢
 have e:ip b1.length=(((b1.length:Int)==4)||(((b1.length:Int)==8)||(((b1.length:Int)==16)||((b1.length:Int)==32)))):=by
  unfold ip;rw[Bool.eq_iff_iff];simp;omega
 rw[e]
 cases h1:((b1.length:Int)==4)
 ·cases h2:((b1.length:Int)==8)
  ·cases h3:((b1.length:Int)==16)
   ·cases h4:((b1.length:Int)==32)
    ·refine acQ 100 Tryz.func72 rfl rfl fun _ _ _=> ?_
     (repeat'((conv=>whnf);first|refine zN ?_|refine Ac ?_|refine Ae ?_|exact zE))
    ·refine acQ 100 Tryz.func72 rfl rfl fun _ _ _=> ?_
     (repeat'((conv=>whnf);first|refine zP ?_|refine zN ?_|refine Ac ?_|refine Ae ?_|refine A6 hG Fe ?_|exact zE))
   ·refine acQ 100 Tryz.func72 rfl rfl fun _ _ _=> ?_
    (repeat'((conv=>whnf);first|refine zP ?_|refine zN ?_|refine Ac ?_|refine Ae ?_|refine A6 hG Fe ?_|exact zE))
  ·refine acQ 100 Tryz.func72 rfl rfl fun _ _ _=> ?_
   (repeat'((conv=>whnf);first|refine zP ?_|refine zN ?_|refine Ac ?_|refine Ae ?_|refine A6 hG Fe ?_|exact zE))
 ·refine acQ 100 Tryz.func72 rfl rfl fun _ _ _=> ?_
  (repeat'((conv=>whnf);first|refine zP ?_|refine Ac ?_|refine Ae ?_|refine A6 hG Fe ?_|exact zE))
theorem E6 (g:Gn) (hs:g.zz):Ab Tryz.prog 72 [gnA g] (fun r=>r=bv (gnW g)):=by
 by_cases hk:0≤g.k∧g.k≤8
 ·obtain⟨k,o,t,b1,n,ak,av,pk,pv⟩:=g
  simp only at hk
  rcases(by omega:k=0∨k=1∨k=2∨k=3∨k=4∨k=5∨k=6∨k=7∨k=8) with rfl|rfl|rfl|rfl|rfl|rfl|rfl|rfl|rfl
  ·exact JG hs
  ·exact JH hs
  ·exact JI hs
  ·exact JK hs
  ·exact JL hs
  ·exact JN hs
  ·exact JJ hs
  ·exact JO hs
  ·exact JM hs
 ·have e:gnW g=false:=by
   rw[Iu,show okG g=false from ?_,Bool.false_and]
   unfold okG
   rw[if_neg (by omega),if_neg (by omega),if_neg (by omega),if_neg (by omega),if_neg (by omega),if_neg (by omega),if_neg (by omega)]
  rw[e]
  obtain⟨k,o,t,b1,n,ak,av,pk,pv⟩:=g
  simp only at hk
  have g0:(k==0)=false:=beq_eq_false_iff_ne.2 (by omega)
  have g1:(k==1)=false:=beq_eq_false_iff_ne.2 (by omega)
  have g2:(k==2)=false:=beq_eq_false_iff_ne.2 (by omega)
  have g3:(k==3)=false:=beq_eq_false_iff_ne.2 (by omega)
  have g4:(k==4)=false:=beq_eq_false_iff_ne.2 (by omega)
  have g5:(k==5)=false:=beq_eq_false_iff_ne.2 (by omega)
  have g6:(k==6)=false:=beq_eq_false_iff_ne.2 (by omega)
  have g7:(k==7)=false:=beq_eq_false_iff_ne.2 (by omega)
  have g8:(k==8)=false:=beq_eq_false_iff_ne.2 (by omega)
  refine acQ 100 Tryz.func72 rfl rfl fun _ _ _=> ?_
  (repeat'((conv=>whnf);first|refine zN ?_|refine Ae ?_|exact zE))
theorem Hf {g:Gn} (h:gnW g=true):okG g=true:=by rw[Iu] at h;simp at h;exact h.1
theorem yO {k:Int} {l:List UInt8} (h:fiB k l=true):0<k:=by
 have hv:=H1 h
 have hk:¬Ao k<0:=by unfold Al at hv;simp at hv;omega
 rcases Df k hk with rfl|rfl|rfl|rfl|rfl|rfl|rfl<;>omega
theorem yP {k:Int} {l:List UInt8} (h:fiB k l=true) (hl:l.length≤3000000):Ab Tryz.prog 102 [txA k l] (fun r=>r= .tup [A4 0 5 (txE k l),iv 0]):=by
 have:=yK k l (by omega)
 unfold frS at this
 rw[if_pos (H1 h)] at this
 exact this
theorem Cd {p:Prop} (h:p:=by first|rfl|(simp only[AV.gives,AV.ren,AV.give,D.un,D.uns,Aj,Ak,List.nil_append,List.append_nil,List.cons_append,Ap,A0,Bk,A7,Ay,Bj,Bs,Bg,A9,Bx,A5];first|done|rfl)):p:=h
theorem JP {o t b1:List UInt8} {n:List (List Att)} {ak:Int} {av:List UInt8} {pk:Int} {pv:List UInt8} (hs:(⟨0,o,t,b1,n,ak,av,pk,pv⟩:Gn).zz) (hw:gnW ⟨0,o,t,b1,n,ak,av,pk,pv⟩=true):Ab Tryz.prog 69 [gnA ⟨0,o,t,b1,n,ak,av,pk,pv⟩] (fun r=>r= .tup [A4 0 5 (gnE ⟨0,o,t,b1,n,ak,av,pk,pv⟩),iv 0]):=by
 have hV:=E6 _ hs
 rw[hw] at hV
 have hok:=Hf hw
 clear hw
 obtain⟨s1,s2,s3,s4,s5,s6⟩:=hs
 simp only at s1 s2 s3 s4 s5 s6
 have hok:(Ej o&&Es b1)=true:=hok
 rw[Bool.and_eq_true] at hok
 have hE:gnE ⟨0,o,t,b1,n,ak,av,pk,pv⟩=Ah 2 0 true (Ah 0 6 false (Bm o)++Ah 2 0 true b1):=by
  unfold gnE;rw[show D8 ⟨0,o,t,b1,n,ak,av,pk,pv⟩=some (Ah 0 6 false (Bm o)++Ah 2 0 true b1) from if_pos hok.1];rfl
 rw[hE]
 have k1:=Fs o
 have k2:=Aq 0 6 false (Bm o) (by omega)
 have k3:=Aq 2 0 true b1 (by omega)
 have hO:=Um o (by omega)
 have hP:Ab Tryz.prog 66 [cv 160,.d (Ag false b1)] (fun r=>r=A4 0 5 (Ah 2 0 true b1)):=C3 160 b1 (by omega)
 have hQ:Ab Tryz.prog 42 [cv 160,.d (C4 [Qr o,Ah 2 0 true b1])] (fun r=>r=A4 0 5 (Ah 2 0 true (Ah 0 6 false (Bm o)++Ah 2 0 true b1))):=by
  have:=Et 160 [Qr o,Ah 2 0 true b1] (by simp) (by simp[Qr];omega)
  rw[show [Qr o,Ah 2 0 true b1].flatten=Ah 0 6 false (Bm o)++Ah 2 0 true b1 by simp[Qr]] at this
  exact this
 generalize Ah 2 0 true (Ah 0 6 false (Bm o)++Ah 2 0 true b1)=E at hQ⊢
 generalize Ah 2 0 true b1=e1 at hP hQ
 generalize Qr o=e2 at hO hQ
 clear hE hok
 refine acQ 106 Tryz.func69 rfl rfl fun _ _ _=> ?_
 (repeat'((conv=>whnf);first|refine Ac ?_|refine Ae ?_|refine Aa hV Cd ?_|refine Aa hO rfl ?_|refine Aa hP Cd ?_|refine Aa hQ Cd ?_|(with_reducible refine NInt.i64 ?_)|(with_reducible refine NInt.u8 ?_)|refine zF ?_|exact zE))
theorem JQ {o t b1:List UInt8} {n:List (List Att)} {ak:Int} {av:List UInt8} {pk:Int} {pv:List UInt8} (hs:(⟨1,o,t,b1,n,ak,av,pk,pv⟩:Gn).zz) (hw:gnW ⟨1,o,t,b1,n,ak,av,pk,pv⟩=true):Ab Tryz.prog 69 [gnA ⟨1,o,t,b1,n,ak,av,pk,pv⟩] (fun r=>r= .tup [A4 0 5 (gnE ⟨1,o,t,b1,n,ak,av,pk,pv⟩),iv 0]):=by
 have hV:=E6 _ hs
 rw[hw] at hV
 have hok:=Hf hw
 clear hw
 obtain⟨s1,s2,s3,s4,s5,s6⟩:=hs
 simp only at s1 s2 s3 s4 s5 s6
 have hok:Al 22 t=true:=hok
 have hE:gnE ⟨1,o,t,b1,n,ak,av,pk,pv⟩=Ah 2 1 false (chS 22 t):=by
  unfold gnE;rw[show D8 ⟨1,o,t,b1,n,ak,av,pk,pv⟩=some (chS 22 t) from if_pos hok];rfl
 rw[hE]
 have hC:=H0 22 t (by omega)
 rw[show Gh 22 t=chS 22 t by unfold Gh;rw[hok];rfl] at hC
 have h4:=G7 hok
 have hP:Ab Tryz.prog 66 [cv 129,.d (Ag false (chS 22 t))] (fun r=>r=A4 0 5 (Ah 2 1 false (chS 22 t))):=C3 129 (chS 22 t) (by omega)
 generalize Ah 2 1 false (chS 22 t)=E at hP⊢
 generalize chS 22 t=c at hC hP
 clear hE hok h4
 refine acQ 106 Tryz.func69 rfl rfl fun _ _ _=> ?_
 (repeat'((conv=>whnf);first|refine Ae ?_|refine Aa hV Cd ?_|refine Aa hC rfl ?_|refine Aa hP Cd ?_|(with_reducible refine NInt.i64 ?_)|(with_reducible refine NInt.u8 ?_)|exact zE))
theorem JR {o t b1:List UInt8} {n:List (List Att)} {ak:Int} {av:List UInt8} {pk:Int} {pv:List UInt8} (hs:(⟨2,o,t,b1,n,ak,av,pk,pv⟩:Gn).zz) (hw:gnW ⟨2,o,t,b1,n,ak,av,pk,pv⟩=true):Ab Tryz.prog 69 [gnA ⟨2,o,t,b1,n,ak,av,pk,pv⟩] (fun r=>r= .tup [A4 0 5 (gnE ⟨2,o,t,b1,n,ak,av,pk,pv⟩),iv 0]):=by
 have hV:=E6 _ hs
 rw[hw] at hV
 have hok:=Hf hw
 clear hw
 obtain⟨s1,s2,s3,s4,s5,s6⟩:=hs
 simp only at s1 s2 s3 s4 s5 s6
 have hok:Al 22 t=true:=hok
 have hE:gnE ⟨2,o,t,b1,n,ak,av,pk,pv⟩=Ah 2 2 false (chS 22 t):=by
  unfold gnE;rw[show D8 ⟨2,o,t,b1,n,ak,av,pk,pv⟩=some (chS 22 t) from if_pos hok];rfl
 rw[hE]
 have hC:=H0 22 t (by omega)
 rw[show Gh 22 t=chS 22 t by unfold Gh;rw[hok];rfl] at hC
 have h4:=G7 hok
 have hP:Ab Tryz.prog 66 [cv 130,.d (Ag false (chS 22 t))] (fun r=>r=A4 0 5 (Ah 2 2 false (chS 22 t))):=C3 130 (chS 22 t) (by omega)
 generalize Ah 2 2 false (chS 22 t)=E at hP⊢
 generalize chS 22 t=c at hC hP
 clear hE hok h4
 refine acQ 106 Tryz.func69 rfl rfl fun _ _ _=> ?_
 (repeat'((conv=>whnf);first|refine Ae ?_|refine Aa hV Cd ?_|refine Aa hC rfl ?_|refine Aa hP Cd ?_|(with_reducible refine NInt.i64 ?_)|(with_reducible refine NInt.u8 ?_)|exact zE))
theorem JS {o t b1:List UInt8} {n:List (List Att)} {ak:Int} {av:List UInt8} {pk:Int} {pv:List UInt8} (hs:(⟨6,o,t,b1,n,ak,av,pk,pv⟩:Gn).zz) (hw:gnW ⟨6,o,t,b1,n,ak,av,pk,pv⟩=true):Ab Tryz.prog 69 [gnA ⟨6,o,t,b1,n,ak,av,pk,pv⟩] (fun r=>r= .tup [A4 0 5 (gnE ⟨6,o,t,b1,n,ak,av,pk,pv⟩),iv 0]):=by
 have hV:=E6 _ hs
 rw[hw] at hV
 have hok:=Hf hw
 clear hw
 obtain⟨s1,s2,s3,s4,s5,s6⟩:=hs
 simp only at s1 s2 s3 s4 s5 s6
 have hok:Al 22 t=true:=hok
 have hE:gnE ⟨6,o,t,b1,n,ak,av,pk,pv⟩=Ah 2 6 false (chS 22 t):=by
  unfold gnE;rw[show D8 ⟨6,o,t,b1,n,ak,av,pk,pv⟩=some (chS 22 t) from if_pos hok];rfl
 rw[hE]
 have hC:=H0 22 t (by omega)
 rw[show Gh 22 t=chS 22 t by unfold Gh;rw[hok];rfl] at hC
 have h4:=G7 hok
 have hP:Ab Tryz.prog 66 [cv 134,.d (Ag false (chS 22 t))] (fun r=>r=A4 0 5 (Ah 2 6 false (chS 22 t))):=C3 134 (chS 22 t) (by omega)
 generalize Ah 2 6 false (chS 22 t)=E at hP⊢
 generalize chS 22 t=c at hC hP
 clear hE hok h4
 refine acQ 106 Tryz.func69 rfl rfl fun _ _ _=> ?_
 (repeat'((conv=>whnf);first|refine Ae ?_|refine Aa hV Cd ?_|refine Aa hC rfl ?_|refine Aa hP Cd ?_|(with_reducible refine NInt.i64 ?_)|(with_reducible refine NInt.u8 ?_)|exact zE))
theorem JT {o t b1:List UInt8} {n:List (List Att)} {ak:Int} {av:List UInt8} {pk:Int} {pv:List UInt8} (hs:(⟨3,o,t,b1,n,ak,av,pk,pv⟩:Gn).zz) (hw:gnW ⟨3,o,t,b1,n,ak,av,pk,pv⟩=true):Ab Tryz.prog 69 [gnA ⟨3,o,t,b1,n,ak,av,pk,pv⟩] (fun r=>r= .tup [A4 0 5 (gnE ⟨3,o,t,b1,n,ak,av,pk,pv⟩),iv 0]):=by
 have hV:=E6 _ hs
 rw[hw] at hV
 have hok:=Hf hw
 clear hw
 obtain⟨s1,s2,s3,s4,s5,s6⟩:=hs
 simp only at s1 s2 s3 s4 s5 s6
 clear hok
 have hE:gnE ⟨3,o,t,b1,n,ak,av,pk,pv⟩=Ah 2 3 true (b1):=by
  unfold gnE;rw[show D8 ⟨3,o,t,b1,n,ak,av,pk,pv⟩=some (b1) from rfl];rfl
 rw[hE]
 have hP:Ab Tryz.prog 66 [cv 163,.d (Ag false b1)] (fun r=>r=A4 0 5 (Ah 2 3 true b1)):=C3 163 b1 (by omega)
 generalize Ah 2 3 true b1=E at hP⊢
 clear hE
 refine acQ 106 Tryz.func69 rfl rfl fun _ _ _=> ?_
 (repeat'((conv=>whnf);first|refine Ac ?_|refine Ae ?_|refine Aa hV Cd ?_|refine Aa hP Cd ?_|(with_reducible refine NInt.i64 ?_)|(with_reducible refine NInt.u8 ?_)|exact zE))
theorem JU {o t b1:List UInt8} {n:List (List Att)} {ak:Int} {av:List UInt8} {pk:Int} {pv:List UInt8} (hs:(⟨7,o,t,b1,n,ak,av,pk,pv⟩:Gn).zz) (hw:gnW ⟨7,o,t,b1,n,ak,av,pk,pv⟩=true):Ab Tryz.prog 69 [gnA ⟨7,o,t,b1,n,ak,av,pk,pv⟩] (fun r=>r= .tup [A4 0 5 (gnE ⟨7,o,t,b1,n,ak,av,pk,pv⟩),iv 0]):=by
 have hV:=E6 _ hs
 rw[hw] at hV
 have hok:=Hf hw
 clear hw
 obtain⟨s1,s2,s3,s4,s5,s6⟩:=hs
 simp only at s1 s2 s3 s4 s5 s6
 clear hok
 have hE:gnE ⟨7,o,t,b1,n,ak,av,pk,pv⟩=Ah 2 7 false (b1):=by
  unfold gnE;rw[show D8 ⟨7,o,t,b1,n,ak,av,pk,pv⟩=some (b1) from rfl];rfl
 rw[hE]
 have hP:Ab Tryz.prog 66 [cv 135,.d (Ag false b1)] (fun r=>r=A4 0 5 (Ah 2 7 false b1)):=C3 135 b1 (by omega)
 generalize Ah 2 7 false b1=E at hP⊢
 clear hE
 refine acQ 106 Tryz.func69 rfl rfl fun _ _ _=> ?_
 (repeat'((conv=>whnf);first|refine Ac ?_|refine Ae ?_|refine Aa hV Cd ?_|refine Aa hP Cd ?_|(with_reducible refine NInt.i64 ?_)|(with_reducible refine NInt.u8 ?_)|exact zE))
theorem JV {o t b1:List UInt8} {n:List (List Att)} {ak:Int} {av:List UInt8} {pk:Int} {pv:List UInt8} (hs:(⟨4,o,t,b1,n,ak,av,pk,pv⟩:Gn).zz) (hw:gnW ⟨4,o,t,b1,n,ak,av,pk,pv⟩=true):Ab Tryz.prog 69 [gnA ⟨4,o,t,b1,n,ak,av,pk,pv⟩] (fun r=>r= .tup [A4 0 5 (gnE ⟨4,o,t,b1,n,ak,av,pk,pv⟩),iv 0]):=by
 have hV:=E6 _ hs
 rw[hw] at hV
 have hok:=Hf hw
 clear hw
 obtain⟨s1,s2,s3,s4,s5,s6⟩:=hs
 simp only at s1 s2 s3 s4 s5 s6
 have hok:nmV n=true:=hok
 have hE:gnE ⟨4,o,t,b1,n,ak,av,pk,pv⟩=Ah 2 4 true (nmE n):=by
  unfold gnE;rw[show D8 ⟨4,o,t,b1,n,ak,av,pk,pv⟩=some (nmE n) from if_pos hok];rfl
 rw[hE]
 have hM:=yL n s4
 rw[if_pos hok] at hM
 have k1:=Aq 0 16 true ((n.map C8).flatten) (by have:=s4.e;omega)
 have k2:(nmE n).length≤90000006:=by have:=s4.e;unfold nmE;omega
 have hP:Ab Tryz.prog 66 [cv 164,.d (Ag false (nmE n))] (fun r=>r=A4 0 5 (Ah 2 4 true (nmE n))):=C3 164 (nmE n) (by omega)
 generalize Ah 2 4 true (nmE n)=E at hP⊢
 generalize nmE n=c at hM hP
 clear hE hok k1 k2
 refine acQ 106 Tryz.func69 rfl rfl fun _ _ _=> ?_
 (repeat'((conv=>whnf);first|refine Ac ?_|refine Ae ?_|refine Aa hV Cd ?_|refine Aa hM Cd ?_|refine Aa hP Cd ?_|(with_reducible refine NInt.i64 ?_)|(with_reducible refine NInt.u8 ?_)|exact zE))
theorem JW {o t b1:List UInt8} {n:List (List Att)} {ak:Int} {av:List UInt8} {pk:Int} {pv:List UInt8} (hs:(⟨8,o,t,b1,n,ak,av,pk,pv⟩:Gn).zz) (hw:gnW ⟨8,o,t,b1,n,ak,av,pk,pv⟩=true):Ab Tryz.prog 69 [gnA ⟨8,o,t,b1,n,ak,av,pk,pv⟩] (fun r=>r= .tup [A4 0 5 (gnE ⟨8,o,t,b1,n,ak,av,pk,pv⟩),iv 0]):=by
 have hV:=E6 _ hs
 rw[hw] at hV
 have hok:=Hf hw
 clear hw
 obtain⟨s1,s2,s3,s4,s5,s6⟩:=hs
 simp only at s1 s2 s3 s4 s5 s6
 have hok:Ej o=true:=hok
 have hE:gnE ⟨8,o,t,b1,n,ak,av,pk,pv⟩=Ah 2 8 false (Bm o):=by
  unfold gnE;rw[show D8 ⟨8,o,t,b1,n,ak,av,pk,pv⟩=some (Bm o) from if_pos hok];rfl
 rw[hE]
 have hC:=Rp o (by omega)
 have k1:=Fs o
 have hP:Ab Tryz.prog 66 [cv 136,.d (Ag false (Bm o))] (fun r=>r=A4 0 5 (Ah 2 8 false (Bm o))):=C3 136 (Bm o) (by omega)
 generalize Ah 2 8 false (Bm o)=E at hP⊢
 generalize Bm o=c at hC hP
 clear hE hok k1
 refine acQ 106 Tryz.func69 rfl rfl fun _ _ _=> ?_
 (repeat'((conv=>whnf);first|refine Ac ?_|refine Ae ?_|refine Aa hV Cd ?_|refine Aa hC rfl ?_|refine Aa hP Cd ?_|(with_reducible refine NInt.i64 ?_)|(with_reducible refine NInt.u8 ?_)|exact zE))
theorem JX {o t b1:List UInt8} {n:List (List Att)} {ak:Int} {av:List UInt8} {pk:Int} {pv:List UInt8} (hs:(⟨5,o,t,b1,n,ak,av,pk,pv⟩:Gn).zz) (hw:gnW ⟨5,o,t,b1,n,ak,av,pk,pv⟩=true):Ab Tryz.prog 69 [gnA ⟨5,o,t,b1,n,ak,av,pk,pv⟩] (fun r=>r= .tup [A4 0 5 (gnE ⟨5,o,t,b1,n,ak,av,pk,pv⟩),iv 0]):=by
 have hV:=E6 _ hs
 rw[hw] at hV
 have hok:=Hf hw
 clear hw
 obtain⟨s1,s2,s3,s4,s5,s6⟩:=hs
 simp only at s1 s2 s3 s4 s5 s6
 have hok:((zT ak av||fiB ak av)&&fiB pk pv)=true:=hok
 rw[Bool.and_eq_true] at hok
 obtain⟨h1,h2⟩:=hok
 have hF:=yP h2 s6
 have l2:=He (H1 h2) s6
 have x2:=Aq 2 1 true (txE pk pv) (by omega)
 have hP1:Ab Tryz.prog 66 [cv 161,.d (Ag false (txE pk pv))] (fun r=>r=A4 0 5 (Ah 2 1 true (txE pk pv))):=C3 161 (txE pk pv) (by omega)
 cases hz:zT ak av
 ·rw[hz,Bool.false_or] at h1
  have hG:=yP h1 s5
  have l1:=He (H1 h1) s5
  have x1:=Aq 2 0 true (txE ak av) (by omega)
  have hP0:Ab Tryz.prog 66 [cv 160,.d (Ag false (txE ak av))] (fun r=>r=A4 0 5 (Ah 2 0 true (txE ak av))):=C3 160 (txE ak av) (by omega)
  have hE:gnE ⟨5,o,t,b1,n,ak,av,pk,pv⟩=Iz 165 [Ah 2 0 true (txE ak av),Ah 2 1 true (txE pk pv)].flatten:=by
   unfold gnE
   rw[show D8 ⟨5,o,t,b1,n,ak,av,pk,pv⟩=Ob ⟨5,o,t,b1,n,ak,av,pk,pv⟩ from rfl]
   unfold Ob
   simp only
   rw[hz,H1 h1,H1 h2]
   show Ah 2 5 true (Ah 2 0 true (txE ak av)++Ah 2 1 true (txE pk pv))=_
   simp only[List.flatten_cons,List.flatten_nil,List.append_nil]
   rfl
  have hQ:=Et 165 [Ah 2 0 true (txE ak av),Ah 2 1 true (txE pk pv)] (by simp) (by simp;omega)
  rw[←hE] at hQ
  have hQ:Ab Tryz.prog 42 [cv 165,.d (C4 [Ah 2 0 true (txE ak av),Ah 2 1 true (txE pk pv)])] _:=hQ
  generalize gnE _=E at hQ⊢
  have g0:decide ((ak:Int)>0)=true:=decide_eq_true (yO h1)
  generalize Ah 2 0 true (txE ak av)=e0 at hP0 hQ x1
  generalize Ah 2 1 true (txE pk pv)=e1 at hP1 hQ x2
  generalize txE ak av=t0 at hG hP0 l1
  generalize txE pk pv=t1 at hF hP1 l2
  clear hE hz h1 h2
  refine acQ 106 Tryz.func69 rfl rfl fun _ _ _=> ?_
  (repeat'((conv=>whnf);first|refine zP ?_|refine Ac ?_|refine Ae ?_|refine Aa hV Cd ?_|refine Aa hG rfl ?_|refine Aa hP0 Cd ?_|refine Aa hF rfl ?_|refine Aa hP1 Cd ?_|refine Wx Ct e0 ?_|refine A3 Ct e1 ?_|refine Aa hQ Cd ?_|(with_reducible refine NInt.i64 ?_)|(with_reducible refine NInt.u8 ?_)|exact zE))
 ·obtain⟨rfl,rfl⟩:=U2.1 hz
  have hE:gnE ⟨5,o,t,b1,n,0,[],pk,pv⟩=Iz 165 [Ah 2 1 true (txE pk pv)].flatten:=by
   unfold gnE
   rw[show D8 ⟨5,o,t,b1,n,0,[],pk,pv⟩=Ob ⟨5,o,t,b1,n,0,[],pk,pv⟩ from rfl]
   unfold Ob
   simp only
   rw[hz,H1 h2]
   show Ah 2 5 true ([]++Ah 2 1 true (txE pk pv))=_
   simp only[List.flatten_cons,List.flatten_nil,List.append_nil,List.nil_append]
   rfl
  have hQ:=Et 165 [Ah 2 1 true (txE pk pv)] (by simp) (by simp;omega)
  rw[←hE] at hQ
  have hQ:Ab Tryz.prog 42 [cv 165,.d (C4 [Ah 2 1 true (txE pk pv)])] _:=hQ
  generalize gnE _=E at hQ⊢
  generalize Ah 2 1 true (txE pk pv)=e1 at hP1 hQ x2
  generalize txE pk pv=t1 at hF hP1 l2
  clear hE hz h1 h2
  refine acQ 106 Tryz.func69 rfl rfl fun _ _ _=> ?_
  (repeat'((conv=>whnf);first|refine Ac ?_|refine Ae ?_|refine Aa hV Cd ?_|refine Aa hF rfl ?_|refine Aa hP1 Cd ?_|refine Wx Ct e1 ?_|refine Aa hQ Cd ?_|(with_reducible refine NInt.i64 ?_)|(with_reducible refine NInt.u8 ?_)|exact zE))
theorem yQ {g:Gn} (h:gnW g=true):g.k=0∨g.k=1∨g.k=2∨g.k=3∨g.k=4∨g.k=5∨g.k=6∨g.k=7∨g.k=8:=by
 have hok:=Hf h
 by_cases hk:g.k=0∨g.k=1∨g.k=2∨g.k=3∨g.k=4∨g.k=5∨g.k=6∨g.k=7∨g.k=8
 ·exact hk
 ·unfold okG at hok
  rw[if_neg (by omega),if_neg (by omega),if_neg (by omega),if_neg (by omega),if_neg (by omega),if_neg (by omega),if_neg (by omega)] at hok
  cases hok
theorem yR (g:Gn) (hs:g.zz):Ab Tryz.prog 69 [gnA g] (fun r=>r=L6 (gnW g) (gnE g)):=by
 cases hw:gnW g
 ·have hV:=E6 g hs
  rw[hw] at hV
  clear hw
  refine acQ 106 Tryz.func69 rfl rfl fun _ _ _=> ?_
  (repeat'((conv=>whnf);first|refine Ac ?_|refine Aa hV Cd ?_|exact zE))
 ·show Ab Tryz.prog 69 [gnA g] (fun r=>r= .tup [A4 0 5 (gnE g),iv 0])
  have hk:=yQ hw
  obtain⟨k,o,t,b1,n,ak,av,pk,pv⟩:=g
  simp only at hk
  rcases hk with rfl|rfl|rfl|rfl|rfl|rfl|rfl|rfl|rfl
  ·exact JP hs hw
  ·exact JQ hs hw
  ·exact JR hs hw
  ·exact JT hs hw
  ·exact JV hs hw
  ·exact JX hs hw
  ·exact JS hs hw
  ·exact JU hs hw
  ·exact JW hs hw
structure insOk (t:Tr):Prop where
 l:t.ks.length≤100000
 k:∀k∈t.ks,k.ok
 e:(Tr.encs t.ks).length≤800000000
structure Tr.gn (t:Tr):Prop where
 v:t.v.length≤30000
 k0:(t.kid 0).v.length≤30000
 i:insOk t
 i1:insOk (t.kid 1)
 nm:(t.kid 0).nm
 a:((t.kid 0).kid 0).v.length≤1000000
 p:((t.kid 1).kid 0).v.length≤1000000
end Go.Proofs.YtjakkpcpommojaaGreatDoor
