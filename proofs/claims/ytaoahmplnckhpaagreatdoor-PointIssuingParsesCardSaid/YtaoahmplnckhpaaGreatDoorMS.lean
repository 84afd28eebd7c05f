/- MS: the texts R13V R13M R13R, one behind the other. No condition but what each lemma says. -/
import Derived.Test.YtaoahmplnckhpaaGreatDoorMR
set_option maxRecDepth 100000
set_option maxHeartbeats 16000000
namespace Go.Proofs.YtaoahmplnckhpaaGreatDoor
open Go.RowKit
def stB (a b c d e:Bool) (g:Gn):Gn:=⟨0,if a then [] else g.oid,if b then [] else g.tx,if c then [] else g.by',if d then [] else g.nm,if e then 0 else g.ak,if e then [] else g.av,if e then 0 else g.pk,if e then [] else g.pv⟩
theorem ON {α:Type} [BEq α] (l:List α):((l.length:Int)==0)=decide (l=[]):=by
 cases l with
 |nil=>rfl
 |cons a r=>rw[decide_eq_false (by simp)];exact beq_eq_false_iff_ne.2 (by simp;omega)
theorem Lm (a b c d e:Bool) (g:Gn):decide (stB a b c d e g=gz)=alB a b c d e g:=by
 obtain⟨k,o,t,b1,n,ak,av,pk,pv⟩:=g
 unfold stB gz alB zT
 simp only[ON]
 rw[Bool.eq_iff_iff]
 cases a<;>cases b<;>cases c<;>cases d<;>cases e<;>simp[and_assoc]
def okG (g:Gn):Bool:=
 if g.k=0 then E4 g.oid&&Ek g.by' else if g.k=1∨g.k=2∨g.k=6 then Al 22 g.tx
 else if g.k=3 then Ek (Ah 2 3 true g.by') else if g.k=4 then nmV g.nm
 else if g.k=5 then(zT g.ak g.av||fiB g.ak g.av)&&fiB g.pk g.pv
 else if g.k=7 then ip g.by'.length else if g.k=8 then E4 g.oid else false
theorem Ii {k:Int} {l:List UInt8} (h:fiB k l=true):Al k l=true:=by unfold fiB at h;simp at h;exact h.1
theorem Ja (g:Gn):gnW g=(okG g&&Ct g):=by
 rw[Bool.eq_iff_iff]
 unfold gnW okG S3 Eg Hv
 simp only[At]
 by_cases h0:g.k=0
 ·rw[if_pos h0,if_pos h0,if_pos h0,h0];cases E4 g.oid<;>simp;exact and_comm
 rw[if_neg h0,if_neg h0,if_neg h0]
 by_cases h1:g.k=1∨g.k=2∨g.k=6
 ·rw[if_pos h1,if_pos h1,if_neg (by omega),if_neg (by omega),show(g.k==5)=false from beq_eq_false_iff_ne.2 (by omega)];cases Al 22 g.tx<;>simp
 rw[if_neg h1,if_neg h1]
 by_cases h3:g.k=3
 ·rw[if_pos h3,if_pos h3,if_pos (.inl h3),h3];simp;exact and_comm
 rw[if_neg h3,if_neg h3]
 by_cases h4:g.k=4
 ·rw[if_pos h4,if_neg (by omega),if_neg (by omega),if_pos h4,h4];cases nmV g.nm<;>simp
 rw[if_neg h4]
 by_cases h5:g.k=5
 ·rw[if_pos h5,if_neg (by omega),if_neg (by omega),if_neg h4,if_pos h5,h5]
  unfold My
  constructor
  ·rintro⟨a,h0,h1,h⟩;exact⟨by simpa using h,a⟩
  ·rintro⟨h,a⟩
   rw[At] at h
   obtain⟨h1,h2⟩:=h
   refine⟨a,rfl,?_,by simp[h1,h2]⟩
   rw[if_pos]
   ·rfl
   ·rw[At]
    refine⟨?_,Ii h2⟩
    rcases Bool.or_eq_true_iff.1 h1 with h|h
    ·rw[h];rfl
    ·rw[Ii h,Bool.or_true]
 rw[if_neg h5]
 by_cases h7:g.k=7
 ·rw[if_pos h7,if_pos h7,if_pos (.inr h7),h7];simp;exact and_comm
 rw[if_neg h7,if_neg h7]
 rw[if_neg (by omega),if_neg h4,if_neg h5,show(g.k==5)=false from beq_eq_false_iff_ne.2 h5]
 by_cases h8:g.k=8
 ·rw[if_pos h8,if_pos h8];cases E4 g.oid<;>simp
 ·rw[if_neg h8,if_neg h8];simp
theorem Ln {n:List (List Att)} (h:nmZ n):FN n:=⟨by have:=h.l;omega,fun r hr=>⟨by have:=(h.r r hr).l;omega,fun a ha=>⟨by have:=((h.r r hr).a a ha).v;omega⟩⟩⟩
structure Gn.zz (g:Gn):Prop where
 o:g.oid.length≤3000000
 t:g.tx.length≤3000000
 b:g.by'.length≤3000000
 n:nmZ g.nm
 a:g.av.length≤3000000
 p:g.pv.length≤3000000
theorem Gn.sm.z {g:Gn} (h:g.sm):g.zz:=⟨h.o,h.t,h.b,h.n,h.a,h.p⟩
theorem Gn.zz.s {g:Gn} (h:g.zz):g.sm:=⟨h.o,h.t,h.b,h.n,h.a,h.p⟩
theorem Gn.zz.q {g:Gn} (h:g.zz):g.eqs:=⟨by have:=h.b;omega,Ln h.n⟩
theorem Lo:gz.eqs:=⟨by simp[gz],by simp[gz,FN]⟩
theorem Jt {p:Prop} (h:p:=by first|rfl|(simp only[AV.gives,AV.ren,AV.give,D.un,D.uns,Aj,Am,List.nil_append,List.append_nil,List.cons_append,Av,A6,Cc,Bn,A8,B5,Cj,B6,Bk,Bw,Bd];first|done|rfl)):p:=h
theorem Fx {p:Prop} (h:p:=by((try simp only[AV.gives,AV.ren,AV.give,D.un,D.uns,Aj,Am,List.nil_append,List.append_nil,List.cons_append,Av,A6,Cc,Bn,A8,B5,Cj,B6,Bk,Bw,Bd]);(repeat'(first|exact trivial|exact Bm _|refine And.intro ?_ ?_|exact rfl|exact Or.inr rfl|exact Or.inl rfl|exact Or.inl (by rfl)|omega|refine Or.inr ?_));first|done|fail)):p:=h
theorem KO {o t b1:List UInt8} {n:List (List Att)} {ak:Int} {av:List UInt8} {pk:Int} {pv:List UInt8} (hs:(⟨0,o,t,b1,n,ak,av,pk,pv⟩:Gn).zz):Ab Tryz.prog 104 [gnA ⟨0,o,t,b1,n,ak,av,pk,pv⟩] (fun r=>r=bv (gnW ⟨0,o,t,b1,n,ak,av,pk,pv⟩)):=by
 have hG:=D1 ⟨0,[],t,[],n,ak,av,pk,pv⟩ gz ⟨by simp,Ln hs.n⟩ Lo
 obtain⟨s1,s2,s3,s4,s5,s6⟩:=hs
 simp only at s1 s2 s3 s4 s5 s6
 rw[show decide ((⟨0,[],t,[],n,ak,av,pk,pv⟩:Gn)=gz)=Ct ⟨0,o,t,b1,n,ak,av,pk,pv⟩ from Lm true false true false false ⟨0,o,t,b1,n,ak,av,pk,pv⟩] at hG
 rw[Ja,show okG ⟨0,o,t,b1,n,ak,av,pk,pv⟩=(E4 o&&Ek b1) from rfl]
 generalize Ct _=A at hG⊢
 have hV:=J6 o (by omega)
 have hO:=O5 b1 (by omega)
 cases h1:E4 o
 ·rw[h1] at hV
  refine acQ 100 Tryz.func104 rfl rfl fun _ _ _=> ?_
  (repeat'((conv=>whnf);first|refine Ac ?_|refine Ae ?_|refine Aa hV rfl ?_|exact zE))
 rw[h1] at hV
 cases h2:Ek b1
 ·rw[h2] at hO
  refine acQ 100 Tryz.func104 rfl rfl fun _ _ _=> ?_
  (repeat'((conv=>whnf);first|refine Ac ?_|refine Ae ?_|refine Aa hV rfl ?_|refine Aa hO Jt ?_|exact zE))
 ·rw[h2] at hO
  refine acQ 100 Tryz.func104 rfl rfl fun _ _ _=> ?_
  (repeat'((conv=>whnf);first|refine Ac ?_|refine Aa hV rfl ?_|refine Aa hO Jt ?_|refine Be hG Fx ?_|exact zE))
theorem KP {o t b1:List UInt8} {n:List (List Att)} {ak:Int} {av:List UInt8} {pk:Int} {pv:List UInt8} (hs:(⟨1,o,t,b1,n,ak,av,pk,pv⟩:Gn).zz):Ab Tryz.prog 104 [gnA ⟨1,o,t,b1,n,ak,av,pk,pv⟩] (fun r=>r=bv (gnW ⟨1,o,t,b1,n,ak,av,pk,pv⟩)):=by
 have hG:=D1 ⟨0,o,[],b1,n,ak,av,pk,pv⟩ gz ⟨by have:=hs.b;simp only at this⊢;omega,Ln hs.n⟩ Lo
 obtain⟨s1,s2,s3,s4,s5,s6⟩:=hs
 simp only at s1 s2 s3 s4 s5 s6
 rw[show decide ((⟨0,o,[],b1,n,ak,av,pk,pv⟩:Gn)=gz)=Ct ⟨1,o,t,b1,n,ak,av,pk,pv⟩ from Lm false true false false false ⟨1,o,t,b1,n,ak,av,pk,pv⟩] at hG
 rw[Ja,show okG ⟨1,o,t,b1,n,ak,av,pk,pv⟩=(Al 22 t) from rfl]
 generalize Ct _=A at hG⊢
 have hV:=H4 22 t (by omega)
 cases h1:Al 22 t
 ·rw[h1] at hV
  refine acQ 100 Tryz.func104 rfl rfl fun _ _ _=> ?_
  (repeat'((conv=>whnf);first|refine Ac ?_|refine Ae ?_|refine Aa hV rfl ?_|exact zE))
 ·rw[h1] at hV
  refine acQ 100 Tryz.func104 rfl rfl fun _ _ _=> ?_
  (repeat'((conv=>whnf);first|refine Ac ?_|refine Ae ?_|refine Aa hV rfl ?_|refine Be hG Fx ?_|exact zE))
theorem KQ {o t b1:List UInt8} {n:List (List Att)} {ak:Int} {av:List UInt8} {pk:Int} {pv:List UInt8} (hs:(⟨2,o,t,b1,n,ak,av,pk,pv⟩:Gn).zz):Ab Tryz.prog 104 [gnA ⟨2,o,t,b1,n,ak,av,pk,pv⟩] (fun r=>r=bv (gnW ⟨2,o,t,b1,n,ak,av,pk,pv⟩)):=by
 have hG:=D1 ⟨0,o,[],b1,n,ak,av,pk,pv⟩ gz ⟨by have:=hs.b;simp only at this⊢;omega,Ln hs.n⟩ Lo
 obtain⟨s1,s2,s3,s4,s5,s6⟩:=hs
 simp only at s1 s2 s3 s4 s5 s6
 rw[show decide ((⟨0,o,[],b1,n,ak,av,pk,pv⟩:Gn)=gz)=Ct ⟨2,o,t,b1,n,ak,av,pk,pv⟩ from Lm false true false false false ⟨2,o,t,b1,n,ak,av,pk,pv⟩] at hG
 rw[Ja,show okG ⟨2,o,t,b1,n,ak,av,pk,pv⟩=(Al 22 t) from rfl]
 generalize Ct _=A at hG⊢
 have hV:=H4 22 t (by omega)
 cases h1:Al 22 t
 ·rw[h1] at hV
  refine acQ 100 Tryz.func104 rfl rfl fun _ _ _=> ?_
  (repeat'((conv=>whnf);first|refine Ac ?_|refine Ae ?_|refine Aa hV rfl ?_|exact zE))
 ·rw[h1] at hV
  refine acQ 100 Tryz.func104 rfl rfl fun _ _ _=> ?_
  (repeat'((conv=>whnf);first|refine Ac ?_|refine Ae ?_|refine Aa hV rfl ?_|refine Be hG Fx ?_|exact zE))
theorem KR {o t b1:List UInt8} {n:List (List Att)} {ak:Int} {av:List UInt8} {pk:Int} {pv:List UInt8} (hs:(⟨6,o,t,b1,n,ak,av,pk,pv⟩:Gn).zz):Ab Tryz.prog 104 [gnA ⟨6,o,t,b1,n,ak,av,pk,pv⟩] (fun r=>r=bv (gnW ⟨6,o,t,b1,n,ak,av,pk,pv⟩)):=by
 have hG:=D1 ⟨0,o,[],b1,n,ak,av,pk,pv⟩ gz ⟨by have:=hs.b;simp only at this⊢;omega,Ln hs.n⟩ Lo
 obtain⟨s1,s2,s3,s4,s5,s6⟩:=hs
 simp only at s1 s2 s3 s4 s5 s6
 rw[show decide ((⟨0,o,[],b1,n,ak,av,pk,pv⟩:Gn)=gz)=Ct ⟨6,o,t,b1,n,ak,av,pk,pv⟩ from Lm false true false false false ⟨6,o,t,b1,n,ak,av,pk,pv⟩] at hG
 rw[Ja,show okG ⟨6,o,t,b1,n,ak,av,pk,pv⟩=(Al 22 t) from rfl]
 generalize Ct _=A at hG⊢
 have hV:=H4 22 t (by omega)
 cases h1:Al 22 t
 ·rw[h1] at hV
  refine acQ 100 Tryz.func104 rfl rfl fun _ _ _=> ?_
  (repeat'((conv=>whnf);first|refine Ac ?_|refine Ae ?_|refine Aa hV rfl ?_|exact zE))
 ·rw[h1] at hV
  refine acQ 100 Tryz.func104 rfl rfl fun _ _ _=> ?_
  (repeat'((conv=>whnf);first|refine Ac ?_|refine Ae ?_|refine Aa hV rfl ?_|refine Be hG Fx ?_|exact zE))
theorem KT {o t b1:List UInt8} {n:List (List Att)} {ak:Int} {av:List UInt8} {pk:Int} {pv:List UInt8} (hs:(⟨3,o,t,b1,n,ak,av,pk,pv⟩:Gn).zz):Ab Tryz.prog 104 [gnA ⟨3,o,t,b1,n,ak,av,pk,pv⟩] (fun r=>r=bv (gnW ⟨3,o,t,b1,n,ak,av,pk,pv⟩)):=by
 have hG:=D1 ⟨0,o,t,[],n,ak,av,pk,pv⟩ gz ⟨by simp,Ln hs.n⟩ Lo
 obtain⟨s1,s2,s3,s4,s5,s6⟩:=hs
 simp only at s1 s2 s3 s4 s5 s6
 rw[show decide ((⟨0,o,t,[],n,ak,av,pk,pv⟩:Gn)=gz)=Ct ⟨3,o,t,b1,n,ak,av,pk,pv⟩ from Lm false false true false false ⟨3,o,t,b1,n,ak,av,pk,pv⟩] at hG
 rw[Ja,show okG ⟨3,o,t,b1,n,ak,av,pk,pv⟩=(Ek (Ah 2 3 true b1)) from rfl]
 generalize Ct _=A at hG⊢
 have hP:Ab Tryz.prog 115 [cv 163,.d (Af false b1)] (fun r=>r=A7 0 5 (Ah 2 3 true b1)):=Dc 163 b1 (by omega)
 have hl:=Ar 2 3 true b1 (by omega)
 have hV:=O5 (Ah 2 3 true b1) (by omega)
 cases h1:Ek (Ah 2 3 true b1)
 ·rw[h1] at hV
  refine acQ 100 Tryz.func104 rfl rfl fun _ _ _=> ?_
  (repeat'((conv=>whnf);first|refine Ac ?_|refine Ae ?_|refine Aa hP Jt ?_|refine Aa hV Jt ?_|exact zE))
 ·rw[h1] at hV
  refine acQ 100 Tryz.func104 rfl rfl fun _ _ _=> ?_
  (repeat'((conv=>whnf);first|refine Ac ?_|refine Ae ?_|refine Aa hP Jt ?_|refine Aa hV Jt ?_|refine Be hG Fx ?_|exact zE))
theorem KU {o t b1:List UInt8} {n:List (List Att)} {ak:Int} {av:List UInt8} {pk:Int} {pv:List UInt8} (hs:(⟨4,o,t,b1,n,ak,av,pk,pv⟩:Gn).zz):Ab Tryz.prog 104 [gnA ⟨4,o,t,b1,n,ak,av,pk,pv⟩] (fun r=>r=bv (gnW ⟨4,o,t,b1,n,ak,av,pk,pv⟩)):=by
 have hG:=D1 ⟨0,o,t,b1,[],ak,av,pk,pv⟩ gz ⟨by have:=hs.b;simp only at this⊢;omega,by simp[FN]⟩ Lo
 obtain⟨s1,s2,s3,s4,s5,s6⟩:=hs
 simp only at s1 s2 s3 s4 s5 s6
 rw[show decide ((⟨0,o,t,b1,[],ak,av,pk,pv⟩:Gn)=gz)=Ct ⟨4,o,t,b1,n,ak,av,pk,pv⟩ from Lm false false false true false ⟨4,o,t,b1,n,ak,av,pk,pv⟩] at hG
 rw[Ja,show okG ⟨4,o,t,b1,n,ak,av,pk,pv⟩=(nmV n) from rfl]
 generalize Ct _=A at hG⊢
 have hV:=gH n s4
 cases h1:nmV n
 ·rw[h1] at hV
  refine acQ 100 Tryz.func104 rfl rfl fun _ _ _=> ?_
  (repeat'((conv=>whnf);first|refine Ac ?_|refine Ae ?_|refine Aa hV Jt ?_|exact zE))
 ·rw[h1] at hV
  refine acQ 100 Tryz.func104 rfl rfl fun _ _ _=> ?_
  (repeat'((conv=>whnf);first|refine Ac ?_|refine Ae ?_|refine Aa hV Jt ?_|refine Be hG Fx ?_|exact zE))
theorem KV {o t b1:List UInt8} {n:List (List Att)} {ak:Int} {av:List UInt8} {pk:Int} {pv:List UInt8} (hs:(⟨8,o,t,b1,n,ak,av,pk,pv⟩:Gn).zz):Ab Tryz.prog 104 [gnA ⟨8,o,t,b1,n,ak,av,pk,pv⟩] (fun r=>r=bv (gnW ⟨8,o,t,b1,n,ak,av,pk,pv⟩)):=by
 have hG:=D1 ⟨0,[],t,b1,n,ak,av,pk,pv⟩ gz ⟨by have:=hs.b;simp only at this⊢;omega,Ln hs.n⟩ Lo
 obtain⟨s1,s2,s3,s4,s5,s6⟩:=hs
 simp only at s1 s2 s3 s4 s5 s6
 rw[show decide ((⟨0,[],t,b1,n,ak,av,pk,pv⟩:Gn)=gz)=Ct ⟨8,o,t,b1,n,ak,av,pk,pv⟩ from Lm true false false false false ⟨8,o,t,b1,n,ak,av,pk,pv⟩] at hG
 rw[Ja,show okG ⟨8,o,t,b1,n,ak,av,pk,pv⟩=(E4 o) from rfl]
 generalize Ct _=A at hG⊢
 have hV:=J6 o (by omega)
 cases h1:E4 o
 ·rw[h1] at hV
  refine acQ 100 Tryz.func104 rfl rfl fun _ _ _=> ?_
  (repeat'((conv=>whnf);first|refine Ac ?_|refine Ae ?_|refine Aa hV rfl ?_|exact zE))
 ·rw[h1] at hV
  refine acQ 100 Tryz.func104 rfl rfl fun _ _ _=> ?_
  (repeat'((conv=>whnf);first|refine Ac ?_|refine Ae ?_|refine Aa hV rfl ?_|refine Be hG Fx ?_|exact zE))
theorem KW {o t b1:List UInt8} {n:List (List Att)} {ak:Int} {av:List UInt8} {pk:Int} {pv:List UInt8} (hs:(⟨5,o,t,b1,n,ak,av,pk,pv⟩:Gn).zz):Ab Tryz.prog 104 [gnA ⟨5,o,t,b1,n,ak,av,pk,pv⟩] (fun r=>r=bv (gnW ⟨5,o,t,b1,n,ak,av,pk,pv⟩)):=by
 have hG:=D1 ⟨0,o,t,b1,n,0,[],0,[]⟩ gz ⟨by have:=hs.b;simp only at this⊢;omega,Ln hs.n⟩ Lo
 obtain⟨s1,s2,s3,s4,s5,s6⟩:=hs
 simp only at s1 s2 s3 s4 s5 s6
 rw[show decide ((⟨0,o,t,b1,n,0,[],0,[]⟩:Gn)=gz)=Ct ⟨5,o,t,b1,n,ak,av,pk,pv⟩ from Lm false false false false true ⟨5,o,t,b1,n,ak,av,pk,pv⟩] at hG
 rw[Ja,show okG ⟨5,o,t,b1,n,ak,av,pk,pv⟩=((zT ak av||fiB ak av)&&fiB pk pv) from rfl]
 generalize Ct _=A at hG⊢
 have hV:=Yu ak av (by omega)
 have hQ:=Yu pk pv (by omega)
 have hz:zT ak av=(ak==0&&av==[]):=rfl
 cases h1:zT ak av
 ·rw[h1] at hz
  have hz:=hz.symm
  cases h2:fiB ak av
  ·rw[h2] at hV
   refine acQ 100 Tryz.func104 rfl rfl fun _ _ _=> ?_
   (repeat'((conv=>whnf);first|refine zN ?_|refine Ac ?_|refine Ae ?_|refine As (Ea rfl rfl (ltN rfl) rfl rfl) ?_|refine Aa hV rfl ?_|exact zE))
  ·rw[h2] at hV
   cases h3:fiB pk pv
   ·rw[h3] at hQ
    refine acQ 100 Tryz.func104 rfl rfl fun _ _ _=> ?_
    (repeat'((conv=>whnf);first|refine zN ?_|refine Ac ?_|refine Ae ?_|refine As (Ea rfl rfl (ltN rfl) rfl rfl) ?_|refine Aa hV rfl ?_|refine Aa hQ rfl ?_|exact zE))
   ·rw[h3] at hQ
    refine acQ 100 Tryz.func104 rfl rfl fun _ _ _=> ?_
    (repeat'((conv=>whnf);first|refine zN ?_|refine Ac ?_|refine Ae ?_|refine As (Ea rfl rfl (ltN rfl) rfl rfl) ?_|refine Aa hV rfl ?_|refine Aa hQ rfl ?_|refine Be hG Fx ?_|exact zE))
 ·rw[h1] at hz
  have hz:=hz.symm
  cases h3:fiB pk pv
  ·rw[h3] at hQ
   refine acQ 100 Tryz.func104 rfl rfl fun _ _ _=> ?_
   (repeat'((conv=>whnf);first|refine zP ?_|refine Ac ?_|refine Ae ?_|refine As (Ea rfl rfl (ltN rfl) rfl rfl) ?_|refine Aa hQ rfl ?_|exact zE))
  ·rw[h3] at hQ
   refine acQ 100 Tryz.func104 rfl rfl fun _ _ _=> ?_
   (repeat'((conv=>whnf);first|refine zP ?_|refine Ac ?_|refine Ae ?_|refine As (Ea rfl rfl (ltN rfl) rfl rfl) ?_|refine Aa hQ rfl ?_|refine Be hG Fx ?_|exact zE))
theorem KX {o t b1:List UInt8} {n:List (List Att)} {ak:Int} {av:List UInt8} {pk:Int} {pv:List UInt8} (hs:(⟨7,o,t,b1,n,ak,av,pk,pv⟩:Gn).zz):Ab Tryz.prog 104 [gnA ⟨7,o,t,b1,n,ak,av,pk,pv⟩] (fun r=>r=bv (gnW ⟨7,o,t,b1,n,ak,av,pk,pv⟩)):=by
 have hG:=D1 ⟨0,o,t,[],n,ak,av,pk,pv⟩ gz ⟨by simp,Ln hs.n⟩ Lo
 obtain⟨s1,s2,s3,s4,s5,s6⟩:=hs
 simp only at s1 s2 s3 s4 s5 s6
 rw[show decide ((⟨0,o,t,[],n,ak,av,pk,pv⟩:Gn)=gz)=Ct ⟨7,o,t,b1,n,ak,av,pk,pv⟩ from Lm false false true false false ⟨7,o,t,b1,n,ak,av,pk,pv⟩] at hG
 rw[Ja,show okG ⟨7,o,t,b1,n,ak,av,pk,pv⟩=(ip b1.length) from rfl]
 generalize Ct _=A at hG⊢
 have e:ip b1.length=(((b1.length:Int)==4)||(((b1.length:Int)==8)||(((b1.length:Int)==16)||((b1.length:Int)==32)))):=by
  unfold ip;rw[Bool.eq_iff_iff];simp;omega
 rw[e]
 cases h1:((b1.length:Int)==4)
 ·cases h2:((b1.length:Int)==8)
  ·cases h3:((b1.length:Int)==16)
   ·cases h4:((b1.length:Int)==32)
    ·refine acQ 100 Tryz.func104 rfl rfl fun _ _ _=> ?_
     (repeat'((conv=>whnf);first|refine zN ?_|refine Ac ?_|refine Ae ?_|exact zE))
    ·refine acQ 100 Tryz.func104 rfl rfl fun _ _ _=> ?_
     (repeat'((conv=>whnf);first|refine zP ?_|refine zN ?_|refine Ac ?_|refine Ae ?_|refine Be hG Fx ?_|exact zE))
   ·refine acQ 100 Tryz.func104 rfl rfl fun _ _ _=> ?_
    (repeat'((conv=>whnf);first|refine zP ?_|refine zN ?_|refine Ac ?_|refine Ae ?_|refine Be hG Fx ?_|exact zE))
  ·refine acQ 100 Tryz.func104 rfl rfl fun _ _ _=> ?_
   (repeat'((conv=>whnf);first|refine zP ?_|refine zN ?_|refine Ac ?_|refine Ae ?_|refine Be hG Fx ?_|exact zE))
 ·refine acQ 100 Tryz.func104 rfl rfl fun _ _ _=> ?_
  (repeat'((conv=>whnf);first|refine zP ?_|refine Ac ?_|refine Ae ?_|refine Be hG Fx ?_|exact zE))
theorem Fs (g:Gn) (hs:g.zz):Ab Tryz.prog 104 [gnA g] (fun r=>r=bv (gnW g)):=by
 by_cases hk:0≤g.k∧g.k≤8
 ·obtain⟨k,o,t,b1,n,ak,av,pk,pv⟩:=g
  simp only at hk
  rcases(by omega:k=0∨k=1∨k=2∨k=3∨k=4∨k=5∨k=6∨k=7∨k=8) with rfl|rfl|rfl|rfl|rfl|rfl|rfl|rfl|rfl
  ·exact KO hs
  ·exact KP hs
  ·exact KQ hs
  ·exact KT hs
  ·exact KU hs
  ·exact KW hs
  ·exact KR hs
  ·exact KX hs
  ·exact KV hs
 ·have e:gnW g=false:=by
   rw[Ja,show okG g=false from ?_,Bool.false_and]
   unfold okG
   rw[if_neg (by omega),if_neg (by omega),if_neg (by omega),if_neg (by omega),if_neg (by omega),if_neg (by omega),if_neg (by omega)]
  rw[e]
  obtain⟨k,o,t,b1,n,ak,av,pk,pv⟩:=g
  simp only at hk
  have g0:(k==0)=false:=beq_eq_false_iff_ne.2 (by omega)
  have g1:(k==1)=false:=beq_eq_false_iff_ne.2 (by omega)
  have g2:(k==2)=false:=beq_eq_false_iff_ne.2 (by omega)
  have g3:(k==3)=false:=beq_eq_false_iff_ne.2 (by omega)
  have g4:(k==4)=false:=beq_eq_false_iff_ne.2 (by omega)
  have g5:(k==5)=false:=beq_eq_false_iff_ne.2 (by omega)
  have g6:(k==6)=false:=beq_eq_false_iff_ne.2 (by omega)
  have g7:(k==7)=false:=beq_eq_false_iff_ne.2 (by omega)
  have g8:(k==8)=false:=beq_eq_false_iff_ne.2 (by omega)
  refine acQ 100 Tryz.func104 rfl rfl fun _ _ _=> ?_
  (repeat'((conv=>whnf);first|refine zN ?_|refine Ae ?_|exact zE))
theorem Hz {g:Gn} (h:gnW g=true):okG g=true:=by rw[Ja] at h;simp at h;exact h.1
theorem zW {k:Int} {l:List UInt8} (h:fiB k l=true):0<k:=by
 have hv:=Ii h
 have hk:¬Ap k<0:=by unfold Al at hv;simp at hv;omega
 rcases Dm k hk with rfl|rfl|rfl|rfl|rfl|rfl|rfl<;>omega
theorem zX {k:Int} {l:List UInt8} (h:fiB k l=true) (hl:l.length≤3000000):Ab Tryz.prog 166 [txA k l] (fun r=>r= .tup [A7 0 5 (txE k l),iv 0]):=by
 have:=zK k l (by omega)
 unfold frS at this
 rw[if_pos (Ii h)] at this
 exact this
theorem Cr {p:Prop} (h:p:=by first|rfl|(simp only[AV.gives,AV.ren,AV.give,D.un,D.uns,Aj,Am,List.nil_append,List.append_nil,List.cons_append,Av,A6,Cc,Bn,A8,B5,Cj,B6,Bk,Bw,Bd];first|done|rfl)):p:=h
theorem KY {o t b1:List UInt8} {n:List (List Att)} {ak:Int} {av:List UInt8} {pk:Int} {pv:List UInt8} (hs:(⟨0,o,t,b1,n,ak,av,pk,pv⟩:Gn).zz) (hw:gnW ⟨0,o,t,b1,n,ak,av,pk,pv⟩=true):Ab Tryz.prog 118 [gnA ⟨0,o,t,b1,n,ak,av,pk,pv⟩] (fun r=>r= .tup [A7 0 5 (gnE ⟨0,o,t,b1,n,ak,av,pk,pv⟩),iv 0]):=by
 have hV:=Fs _ hs
 rw[hw] at hV
 have hok:=Hz hw
 clear hw
 obtain⟨s1,s2,s3,s4,s5,s6⟩:=hs
 simp only at s1 s2 s3 s4 s5 s6
 have hok:(E4 o&&Ek b1)=true:=hok
 rw[At] at hok
 have hE:gnE ⟨0,o,t,b1,n,ak,av,pk,pv⟩=Ah 2 0 true (Ah 0 6 false (Bo o)++Ah 2 0 true b1):=by
  unfold gnE;rw[show Eg ⟨0,o,t,b1,n,ak,av,pk,pv⟩=some (Ah 0 6 false (Bo o)++Ah 2 0 true b1) from if_pos hok.1];rfl
 rw[hE]
 have k1:=Fa o
 have k2:=Ar 0 6 false (Bo o) (by omega)
 have k3:=Ar 2 0 true b1 (by omega)
 have hO:=V1 o (by omega)
 have hP:Ab Tryz.prog 115 [cv 160,.d (Af false b1)] (fun r=>r=A7 0 5 (Ah 2 0 true b1)):=Dc 160 b1 (by omega)
 have hQ:Ab Tryz.prog 85 [cv 160,.d (Do [Rt o,Ah 2 0 true b1])] (fun r=>r=A7 0 5 (Ah 2 0 true (Ah 0 6 false (Bo o)++Ah 2 0 true b1))):=by
  have:=Fv 160 [Rt o,Ah 2 0 true b1] (by simp) (by simp[Rt];omega)
  rw[show [Rt o,Ah 2 0 true b1].flatten=Ah 0 6 false (Bo o)++Ah 2 0 true b1 by simp[Rt]] at this
  exact this
 generalize Ah 2 0 true (Ah 0 6 false (Bo o)++Ah 2 0 true b1)=E at hQ⊢
 generalize Ah 2 0 true b1=e1 at hP hQ
 generalize Rt o=e2 at hO hQ
 clear hE hok
 refine acQ 106 Tryz.func118 rfl rfl fun _ _ _=> ?_
 (repeat'((conv=>whnf);first|refine Ac ?_|refine Ae ?_|refine Aa hV Cr ?_|refine Aa hO rfl ?_|refine Aa hP Cr ?_|refine Aa hQ Cr ?_|(with_reducible refine NInt.i64 ?_)|(with_reducible refine NInt.u8 ?_)|refine zF ?_|exact zE))
theorem KZ {o t b1:List UInt8} {n:List (List Att)} {ak:Int} {av:List UInt8} {pk:Int} {pv:List UInt8} (hs:(⟨1,o,t,b1,n,ak,av,pk,pv⟩:Gn).zz) (hw:gnW ⟨1,o,t,b1,n,ak,av,pk,pv⟩=true):Ab Tryz.prog 118 [gnA ⟨1,o,t,b1,n,ak,av,pk,pv⟩] (fun r=>r= .tup [A7 0 5 (gnE ⟨1,o,t,b1,n,ak,av,pk,pv⟩),iv 0]):=by
 have hV:=Fs _ hs
 rw[hw] at hV
 have hok:=Hz hw
 clear hw
 obtain⟨s1,s2,s3,s4,s5,s6⟩:=hs
 simp only at s1 s2 s3 s4 s5 s6
 have hok:Al 22 t=true:=hok
 have hE:gnE ⟨1,o,t,b1,n,ak,av,pk,pv⟩=Ah 2 1 false (chS 22 t):=by
  unfold gnE;rw[show Eg ⟨1,o,t,b1,n,ak,av,pk,pv⟩=some (chS 22 t) from if_pos hok];rfl
 rw[hE]
 have hC:=G8 22 t (by omega)
 rw[show Fc 22 t=chS 22 t by unfold Fc;rw[hok];rfl] at hC
 have h4:=Gu hok
 have hP:Ab Tryz.prog 115 [cv 129,.d (Af false (chS 22 t))] (fun r=>r=A7 0 5 (Ah 2 1 false (chS 22 t))):=Dc 129 (chS 22 t) (by omega)
 generalize Ah 2 1 false (chS 22 t)=E at hP⊢
 generalize chS 22 t=c at hC hP
 clear hE hok h4
 refine acQ 106 Tryz.func118 rfl rfl fun _ _ _=> ?_
 (repeat'((conv=>whnf);first|refine Ae ?_|refine Aa hV Cr ?_|refine Aa hC rfl ?_|refine Aa hP Cr ?_|(with_reducible refine NInt.i64 ?_)|(with_reducible refine NInt.u8 ?_)|exact zE))
theorem LB {o t b1:List UInt8} {n:List (List Att)} {ak:Int} {av:List UInt8} {pk:Int} {pv:List UInt8} (hs:(⟨2,o,t,b1,n,ak,av,pk,pv⟩:Gn).zz) (hw:gnW ⟨2,o,t,b1,n,ak,av,pk,pv⟩=true):Ab Tryz.prog 118 [gnA ⟨2,o,t,b1,n,ak,av,pk,pv⟩] (fun r=>r= .tup [A7 0 5 (gnE ⟨2,o,t,b1,n,ak,av,pk,pv⟩),iv 0]):=by
 have hV:=Fs _ hs
 rw[hw] at hV
 have hok:=Hz hw
 clear hw
 obtain⟨s1,s2,s3,s4,s5,s6⟩:=hs
 simp only at s1 s2 s3 s4 s5 s6
 have hok:Al 22 t=true:=hok
 have hE:gnE ⟨2,o,t,b1,n,ak,av,pk,pv⟩=Ah 2 2 false (chS 22 t):=by
  unfold gnE;rw[show Eg ⟨2,o,t,b1,n,ak,av,pk,pv⟩=some (chS 22 t) from if_pos hok];rfl
 rw[hE]
 have hC:=G8 22 t (by omega)
 rw[show Fc 22 t=chS 22 t by unfold Fc;rw[hok];rfl] at hC
 have h4:=Gu hok
 have hP:Ab Tryz.prog 115 [cv 130,.d (Af false (chS 22 t))] (fun r=>r=A7 0 5 (Ah 2 2 false (chS 22 t))):=Dc 130 (chS 22 t) (by omega)
 generalize Ah 2 2 false (chS 22 t)=E at hP⊢
 generalize chS 22 t=c at hC hP
 clear hE hok h4
 refine acQ 106 Tryz.func118 rfl rfl fun _ _ _=> ?_
 (repeat'((conv=>whnf);first|refine Ae ?_|refine Aa hV Cr ?_|refine Aa hC rfl ?_|refine Aa hP Cr ?_|(with_reducible refine NInt.i64 ?_)|(with_reducible refine NInt.u8 ?_)|exact zE))
theorem LC {o t b1:List UInt8} {n:List (List Att)} {ak:Int} {av:List UInt8} {pk:Int} {pv:List UInt8} (hs:(⟨6,o,t,b1,n,ak,av,pk,pv⟩:Gn).zz) (hw:gnW ⟨6,o,t,b1,n,ak,av,pk,pv⟩=true):Ab Tryz.prog 118 [gnA ⟨6,o,t,b1,n,ak,av,pk,pv⟩] (fun r=>r= .tup [A7 0 5 (gnE ⟨6,o,t,b1,n,ak,av,pk,pv⟩),iv 0]):=by
 have hV:=Fs _ hs
 rw[hw] at hV
 have hok:=Hz hw
 clear hw
 obtain⟨s1,s2,s3,s4,s5,s6⟩:=hs
 simp only at s1 s2 s3 s4 s5 s6
 have hok:Al 22 t=true:=hok
 have hE:gnE ⟨6,o,t,b1,n,ak,av,pk,pv⟩=Ah 2 6 false (chS 22 t):=by
  unfold gnE;rw[show Eg ⟨6,o,t,b1,n,ak,av,pk,pv⟩=some (chS 22 t) from if_pos hok];rfl
 rw[hE]
 have hC:=G8 22 t (by omega)
 rw[show Fc 22 t=chS 22 t by unfold Fc;rw[hok];rfl] at hC
 have h4:=Gu hok
 have hP:Ab Tryz.prog 115 [cv 134,.d (Af false (chS 22 t))] (fun r=>r=A7 0 5 (Ah 2 6 false (chS 22 t))):=Dc 134 (chS 22 t) (by omega)
 generalize Ah 2 6 false (chS 22 t)=E at hP⊢
 generalize chS 22 t=c at hC hP
 clear hE hok h4
 refine acQ 106 Tryz.func118 rfl rfl fun _ _ _=> ?_
 (repeat'((conv=>whnf);first|refine Ae ?_|refine Aa hV Cr ?_|refine Aa hC rfl ?_|refine Aa hP Cr ?_|(with_reducible refine NInt.i64 ?_)|(with_reducible refine NInt.u8 ?_)|exact zE))
theorem LD {o t b1:List UInt8} {n:List (List Att)} {ak:Int} {av:List UInt8} {pk:Int} {pv:List UInt8} (hs:(⟨3,o,t,b1,n,ak,av,pk,pv⟩:Gn).zz) (hw:gnW ⟨3,o,t,b1,n,ak,av,pk,pv⟩=true):Ab Tryz.prog 118 [gnA ⟨3,o,t,b1,n,ak,av,pk,pv⟩] (fun r=>r= .tup [A7 0 5 (gnE ⟨3,o,t,b1,n,ak,av,pk,pv⟩),iv 0]):=by
 have hV:=Fs _ hs
 rw[hw] at hV
 have hok:=Hz hw
 clear hw
 obtain⟨s1,s2,s3,s4,s5,s6⟩:=hs
 simp only at s1 s2 s3 s4 s5 s6
 clear hok
 have hE:gnE ⟨3,o,t,b1,n,ak,av,pk,pv⟩=Ah 2 3 true (b1):=by
  unfold gnE;rw[show Eg ⟨3,o,t,b1,n,ak,av,pk,pv⟩=some (b1) from rfl];rfl
 rw[hE]
 have hP:Ab Tryz.prog 115 [cv 163,.d (Af false b1)] (fun r=>r=A7 0 5 (Ah 2 3 true b1)):=Dc 163 b1 (by omega)
 generalize Ah 2 3 true b1=E at hP⊢
 clear hE
 refine acQ 106 Tryz.func118 rfl rfl fun _ _ _=> ?_
 (repeat'((conv=>whnf);first|refine Ac ?_|refine Ae ?_|refine Aa hV Cr ?_|refine Aa hP Cr ?_|(with_reducible refine NInt.i64 ?_)|(with_reducible refine NInt.u8 ?_)|exact zE))
theorem LE {o t b1:List UInt8} {n:List (List Att)} {ak:Int} {av:List UInt8} {pk:Int} {pv:List UInt8} (hs:(⟨7,o,t,b1,n,ak,av,pk,pv⟩:Gn).zz) (hw:gnW ⟨7,o,t,b1,n,ak,av,pk,pv⟩=true):Ab Tryz.prog 118 [gnA ⟨7,o,t,b1,n,ak,av,pk,pv⟩] (fun r=>r= .tup [A7 0 5 (gnE ⟨7,o,t,b1,n,ak,av,pk,pv⟩),iv 0]):=by
 have hV:=Fs _ hs
 rw[hw] at hV
 have hok:=Hz hw
 clear hw
 obtain⟨s1,s2,s3,s4,s5,s6⟩:=hs
 simp only at s1 s2 s3 s4 s5 s6
 clear hok
 have hE:gnE ⟨7,o,t,b1,n,ak,av,pk,pv⟩=Ah 2 7 false (b1):=by
  unfold gnE;rw[show Eg ⟨7,o,t,b1,n,ak,av,pk,pv⟩=some (b1) from rfl];rfl
 rw[hE]
 have hP:Ab Tryz.prog 115 [cv 135,.d (Af false b1)] (fun r=>r=A7 0 5 (Ah 2 7 false b1)):=Dc 135 b1 (by omega)
 generalize Ah 2 7 false b1=E at hP⊢
 clear hE
 refine acQ 106 Tryz.func118 rfl rfl fun _ _ _=> ?_
 (repeat'((conv=>whnf);first|refine Ac ?_|refine Ae ?_|refine Aa hV Cr ?_|refine Aa hP Cr ?_|(with_reducible refine NInt.i64 ?_)|(with_reducible refine NInt.u8 ?_)|exact zE))
theorem LF {o t b1:List UInt8} {n:List (List Att)} {ak:Int} {av:List UInt8} {pk:Int} {pv:List UInt8} (hs:(⟨4,o,t,b1,n,ak,av,pk,pv⟩:Gn).zz) (hw:gnW ⟨4,o,t,b1,n,ak,av,pk,pv⟩=true):Ab Tryz.prog 118 [gnA ⟨4,o,t,b1,n,ak,av,pk,pv⟩] (fun r=>r= .tup [A7 0 5 (gnE ⟨4,o,t,b1,n,ak,av,pk,pv⟩),iv 0]):=by
 have hV:=Fs _ hs
 rw[hw] at hV
 have hok:=Hz hw
 clear hw
 obtain⟨s1,s2,s3,s4,s5,s6⟩:=hs
 simp only at s1 s2 s3 s4 s5 s6
 have hok:nmV n=true:=hok
 have hE:gnE ⟨4,o,t,b1,n,ak,av,pk,pv⟩=Ah 2 4 true (nmE n):=by
  unfold gnE;rw[show Eg ⟨4,o,t,b1,n,ak,av,pk,pv⟩=some (nmE n) from if_pos hok];rfl
 rw[hE]
 have hM:=zL n s4
 rw[if_pos hok] at hM
 have k1:=Ar 0 16 true ((n.map Cv).flatten) (by have:=s4.e;omega)
 have k2:(nmE n).length≤90000006:=by have:=s4.e;unfold nmE;omega
 have hP:Ab Tryz.prog 115 [cv 164,.d (Af false (nmE n))] (fun r=>r=A7 0 5 (Ah 2 4 true (nmE n))):=Dc 164 (nmE n) (by omega)
 generalize Ah 2 4 true (nmE n)=E at hP⊢
 generalize nmE n=c at hM hP
 clear hE hok k1 k2
 refine acQ 106 Tryz.func118 rfl rfl fun _ _ _=> ?_
 (repeat'((conv=>whnf);first|refine Ac ?_|refine Ae ?_|refine Aa hV Cr ?_|refine Aa hM Cr ?_|refine Aa hP Cr ?_|(with_reducible refine NInt.i64 ?_)|(with_reducible refine NInt.u8 ?_)|exact zE))
theorem LG {o t b1:List UInt8} {n:List (List Att)} {ak:Int} {av:List UInt8} {pk:Int} {pv:List UInt8} (hs:(⟨8,o,t,b1,n,ak,av,pk,pv⟩:Gn).zz) (hw:gnW ⟨8,o,t,b1,n,ak,av,pk,pv⟩=true):Ab Tryz.prog 118 [gnA ⟨8,o,t,b1,n,ak,av,pk,pv⟩] (fun r=>r= .tup [A7 0 5 (gnE ⟨8,o,t,b1,n,ak,av,pk,pv⟩),iv 0]):=by
 have hV:=Fs _ hs
 rw[hw] at hV
 have hok:=Hz hw
 clear hw
 obtain⟨s1,s2,s3,s4,s5,s6⟩:=hs
 simp only at s1 s2 s3 s4 s5 s6
 have hok:E4 o=true:=hok
 have hE:gnE ⟨8,o,t,b1,n,ak,av,pk,pv⟩=Ah 2 8 false (Bo o):=by
  unfold gnE;rw[show Eg ⟨8,o,t,b1,n,ak,av,pk,pv⟩=some (Bo o) from if_pos hok];rfl
 rw[hE]
 have hC:=Mo o (by omega)
 have k1:=Fa o
 have hP:Ab Tryz.prog 115 [cv 136,.d (Af false (Bo o))] (fun r=>r=A7 0 5 (Ah 2 8 false (Bo o))):=Dc 136 (Bo o) (by omega)
 generalize Ah 2 8 false (Bo o)=E at hP⊢
 generalize Bo o=c at hC hP
 clear hE hok k1
 refine acQ 106 Tryz.func118 rfl rfl fun _ _ _=> ?_
 (repeat'((conv=>whnf);first|refine Ac ?_|refine Ae ?_|refine Aa hV Cr ?_|refine Aa hC rfl ?_|refine Aa hP Cr ?_|(with_reducible refine NInt.i64 ?_)|(with_reducible refine NInt.u8 ?_)|exact zE))
theorem LH {o t b1:List UInt8} {n:List (List Att)} {ak:Int} {av:List UInt8} {pk:Int} {pv:List UInt8} (hs:(⟨5,o,t,b1,n,ak,av,pk,pv⟩:Gn).zz) (hw:gnW ⟨5,o,t,b1,n,ak,av,pk,pv⟩=true):Ab Tryz.prog 118 [gnA ⟨5,o,t,b1,n,ak,av,pk,pv⟩] (fun r=>r= .tup [A7 0 5 (gnE ⟨5,o,t,b1,n,ak,av,pk,pv⟩),iv 0]):=by
 have hV:=Fs _ hs
 rw[hw] at hV
 have hok:=Hz hw
 clear hw
 obtain⟨s1,s2,s3,s4,s5,s6⟩:=hs
 simp only at s1 s2 s3 s4 s5 s6
 have hok:((zT ak av||fiB ak av)&&fiB pk pv)=true:=hok
 rw[At] at hok
 obtain⟨h1,h2⟩:=hok
 have hF:=zX h2 s6
 have l2:=Gh (Ii h2) s6
 have x2:=Ar 2 1 true (txE pk pv) (by omega)
 have hP1:Ab Tryz.prog 115 [cv 161,.d (Af false (txE pk pv))] (fun r=>r=A7 0 5 (Ah 2 1 true (txE pk pv))):=Dc 161 (txE pk pv) (by omega)
 cases hz:zT ak av
 ·rw[hz,Bool.false_or] at h1
  have hG:=zX h1 s5
  have l1:=Gh (Ii h1) s5
  have x1:=Ar 2 0 true (txE ak av) (by omega)
  have hP0:Ab Tryz.prog 115 [cv 160,.d (Af false (txE ak av))] (fun r=>r=A7 0 5 (Ah 2 0 true (txE ak av))):=Dc 160 (txE ak av) (by omega)
  have hE:gnE ⟨5,o,t,b1,n,ak,av,pk,pv⟩=J3 165 [Ah 2 0 true (txE ak av),Ah 2 1 true (txE pk pv)].flatten:=by
   unfold gnE
   rw[show Eg ⟨5,o,t,b1,n,ak,av,pk,pv⟩=My ⟨5,o,t,b1,n,ak,av,pk,pv⟩ from rfl]
   unfold My
   simp only
   rw[hz,Ii h1,Ii h2]
   show Ah 2 5 true (Ah 2 0 true (txE ak av)++Ah 2 1 true (txE pk pv))=_
   simp only[List.flatten_cons,List.flatten_nil,List.append_nil]
   rfl
  have hQ:=Fv 165 [Ah 2 0 true (txE ak av),Ah 2 1 true (txE pk pv)] (by simp) (by simp;omega)
  rw[←hE] at hQ
  have hQ:Ab Tryz.prog 85 [cv 165,.d (Do [Ah 2 0 true (txE ak av),Ah 2 1 true (txE pk pv)])] _:=hQ
  generalize gnE _=E at hQ⊢
  have g0:decide ((ak:Int)>0)=true:=decide_eq_true (zW h1)
  generalize Ah 2 0 true (txE ak av)=e0 at hP0 hQ x1
  generalize Ah 2 1 true (txE pk pv)=e1 at hP1 hQ x2
  generalize txE ak av=t0 at hG hP0 l1
  generalize txE pk pv=t1 at hF hP1 l2
  clear hE hz h1 h2
  refine acQ 106 Tryz.func118 rfl rfl fun _ _ _=> ?_
  (repeat'((conv=>whnf);first|refine zP ?_|refine Ac ?_|refine Ae ?_|refine Aa hV Cr ?_|refine Aa hG rfl ?_|refine Aa hP0 Cr ?_|refine Aa hF rfl ?_|refine Aa hP1 Cr ?_|refine X4 Du e0 ?_|refine A4 Du e1 ?_|refine Aa hQ Cr ?_|(with_reducible refine NInt.i64 ?_)|(with_reducible refine NInt.u8 ?_)|exact zE))
 ·obtain⟨rfl,rfl⟩:=Rz.1 hz
  have hE:gnE ⟨5,o,t,b1,n,0,[],pk,pv⟩=J3 165 [Ah 2 1 true (txE pk pv)].flatten:=by
   unfold gnE
   rw[show Eg ⟨5,o,t,b1,n,0,[],pk,pv⟩=My ⟨5,o,t,b1,n,0,[],pk,pv⟩ from rfl]
   unfold My
   simp only
   rw[hz,Ii h2]
   show Ah 2 5 true ([]++Ah 2 1 true (txE pk pv))=_
   simp only[List.flatten_cons,List.flatten_nil,List.append_nil,List.nil_append]
   rfl
  have hQ:=Fv 165 [Ah 2 1 true (txE pk pv)] (by simp) (by simp;omega)
  rw[←hE] at hQ
  have hQ:Ab Tryz.prog 85 [cv 165,.d (Do [Ah 2 1 true (txE pk pv)])] _:=hQ
  generalize gnE _=E at hQ⊢
  generalize Ah 2 1 true (txE pk pv)=e1 at hP1 hQ x2
  generalize txE pk pv=t1 at hF hP1 l2
  clear hE hz h1 h2
  refine acQ 106 Tryz.func118 rfl rfl fun _ _ _=> ?_
  (repeat'((conv=>whnf);first|refine Ac ?_|refine Ae ?_|refine Aa hV Cr ?_|refine Aa hF rfl ?_|refine Aa hP1 Cr ?_|refine X4 Du e1 ?_|refine Aa hQ Cr ?_|(with_reducible refine NInt.i64 ?_)|(with_reducible refine NInt.u8 ?_)|exact zE))
theorem zY {g:Gn} (h:gnW g=true):g.k=0∨g.k=1∨g.k=2∨g.k=3∨g.k=4∨g.k=5∨g.k=6∨g.k=7∨g.k=8:=by
 have hok:=Hz h
 by_cases hk:g.k=0∨g.k=1∨g.k=2∨g.k=3∨g.k=4∨g.k=5∨g.k=6∨g.k=7∨g.k=8
 ·exact hk
 ·unfold okG at hok
  rw[if_neg (by omega),if_neg (by omega),if_neg (by omega),if_neg (by omega),if_neg (by omega),if_neg (by omega),if_neg (by omega)] at hok
  cases hok
theorem zZ (g:Gn) (hs:g.zz):Ab Tryz.prog 118 [gnA g] (fun r=>r=O8 (gnW g) (gnE g)):=by
 cases hw:gnW g
 ·have hV:=Fs g hs
  rw[hw] at hV
  clear hw
  refine acQ 106 Tryz.func118 rfl rfl fun _ _ _=> ?_
  (repeat'((conv=>whnf);first|refine Ac ?_|refine Aa hV Cr ?_|exact zE))
 ·show Ab Tryz.prog 118 [gnA g] (fun r=>r= .tup [A7 0 5 (gnE g),iv 0])
  have hk:=zY hw
  obtain⟨k,o,t,b1,n,ak,av,pk,pv⟩:=g
  simp only at hk
  rcases hk with rfl|rfl|rfl|rfl|rfl|rfl|rfl|rfl|rfl
  ·exact KY hs hw
  ·exact KZ hs hw
  ·exact LB hs hw
  ·exact LD hs hw
  ·exact LF hs hw
  ·exact LH hs hw
  ·exact LC hs hw
  ·exact LE hs hw
  ·exact LG hs hw
abbrev gnF (g:Gn):AV:= .agg [iv g.k,.d (sD g.oid),.d (sD g.tx),.d (Af false g.by'),.d (Sv g.nm),iv g.ak,.d (sD g.av),iv g.pk,.d (sD g.pv)]
structure insOk (t:Tr):Prop where
 l:t.ks.length≤100000
 k:∀k∈t.ks,k.ok
 e:(Tr.encs t.ks).length≤800000000
theorem C6 {p:Prop} (h:p:=by first|rfl|(simp only[AV.gives,AV.ren,AV.give,D.un,D.uns,Aj,Am,List.nil_append,List.append_nil,List.cons_append,Av,A6,Cc,Bn,A8,B5,Cj,B6,Bk,Bw,Bd,Tr.cellss_un];first|done|rfl)):p:=h
theorem gI (t:Tr) (ht:insOk t):Ab Tryz.prog 157 [trF t] (fun r=>r= .d (Af true (Tr.encs t.ks))):=by
 obtain⟨h1,h2,h3⟩:=ht
 obtain⟨c,n,k,b,ks⟩:=t
 rw[Bt]
 simp only[Tr.ks] at h1 h2 h3⊢
 refine acQ 21 Tryz.func157 rfl rfl fun _ _ _=> ?_
 (all_goals(conv=>whnf))
 refine Bb [.s 3 1 5] (fun i:Nat=>i≤ks.length) (fun i=>ks.length-i) (fun i=>⟨[(1,.ptr 1 0),(3,A7 3 5 (Tr.encs (ks.take i))),(4,iv i)],[(1,[iv c,iv n,bv k,.d (Af false b),.d (.sl false ks.length 5 (Tr.cellss false ks))])],[(3,((Tr.encs (ks.take i)).length,1,5))]⟩) 0 (by omega) leQ ?_
 rintro i hi
 have ht:=Tr.encs_le ks i
 by_cases hik:i<ks.length
 ·have gi:decide ((i:Int)<ks.length)=true:=decide_eq_true (by omega)
  obtain⟨x,hg⟩:∃p,ks[i]?=some p:=⟨_,An hik⟩
  have hs:=Tr.encs_snoc hg
  have ht2:=Tr.encs_le ks (i+1)
  rw[hs,Ak] at ht2
  have hB:=O4 x (h2 x (Bi hg)) (by omega)
  generalize x.enc=e at hB hs ht2
  generalize Tr.encs (ks.take i)=Q at hs ht ht2⊢
  obtain⟨c',n',k',b',ks'⟩:=x
  rw[Bt] at hB
  (repeat'((conv=>whnf);first|refine zP ?_|(refine Dd hg ?_)|refine Aa hB C6 ?_|(with_reducible refine NInt.i64 ?_)|(with_reducible refine NApp.bytes ?_)));(all_goals(conv=>whnf))
  refine⟨i+1,by omega,by omega,?_⟩
  rw[hs]
  exact leQ
 ·have gi:decide ((i:Int)<ks.length)=false:=decide_eq_false (by omega)
  obtain rfl:i=ks.length:=by omega
  rw[List.take_length]
  (repeat'((conv=>whnf);refine zN ?_));(all_goals(conv=>whnf))
  all_goals exact zE
structure Tr.gn (t:Tr):Prop where
 v:t.v.length≤30000
 k0:(t.kid 0).v.length≤30000
 i:insOk t
 i1:insOk (t.kid 1)
 nm:(t.kid 0).nm
 a:((t.kid 0).kid 0).v.length≤1000000
 p:((t.kid 1).kid 0).v.length≤1000000
theorem NQ (t:Tr) (c n:Nat) (k:Bool):t.isB c n k=isT t c n k:=by
 obtain⟨c',n',k',b',ks'⟩:=t
 exact Bool.and_assoc _ _ _
theorem LI {c:Nat} {k:Bool} {b:List UInt8} {ks:List Tr} (ht:(Tr.mk c 0 k b ks).gn):Ab Tryz.prog 114 [trF (.mk c 0 k b ks)] (fun r=>r=gnF (Bg (.mk c 0 k b ks))):=by
 obtain⟨h1,h2,h3,h4,h5,h6,h7⟩:=ht
 have hK0:=Ig (.mk c 0 k b ks) 0 (by omega)
 have hK1:=Ig (.mk c 0 k b ks) 1 (by omega)
 have hR:=Mt _ h2
 have hI:=gI _ h4
 rw[show Bg (.mk c 0 k b ks)=⟨0,odT ((Tr.mk c 0 k b ks).kid 0).v,[],Tr.encs ((Tr.mk c 0 k b ks).kid 1).ks,[],0,[],0,[]⟩ from rfl]
 generalize odT _=o at hR⊢
 generalize Tr.encs _=e at hI⊢
 generalize (Tr.mk c 0 k b ks).kid 0=k0 at hK0 hR
 generalize (Tr.mk c 0 k b ks).kid 1=k1 at hK1 hI
 clear h1 h2 h3 h4 h5 h6 h7
 obtain⟨c0,n0,j0,b0,ks0⟩:=k0
 obtain⟨c1,n1,j1,b1,ks1⟩:=k1
 simp only[Bt] at hK0 hK1 hR hI⊢
 refine acQ 73 Tryz.func114 rfl rfl fun _ _ _=> ?_
 (repeat'((conv=>whnf);first|refine Ac ?_|refine Aa hK0 C6 ?_|refine Aa hR C6 ?_|refine Aa hK1 C6 ?_|refine Aa hI C6 ?_|exact zE))
theorem LJ {c:Nat} {k:Bool} {b:List UInt8} {ks:List Tr} (ht:(Tr.mk c 1 k b ks).gn):Ab Tryz.prog 114 [trF (.mk c 1 k b ks)] (fun r=>r=gnF (Bg (.mk c 1 k b ks))):=by
 obtain⟨h1,h2,h3,h4,h5,h6,h7⟩:=ht
 have hD:=Ih 22 b (by have:=h1;simp only[Tr.v] at this;omega)
 rw[show Bg (.mk c 1 k b ks)=⟨1,[],Cw 22 b,[],[],0,[],0,[]⟩ from rfl]
 clear h1 h2 h3 h4 h5 h6 h7
 rw[Bt]
 refine acQ 73 Tryz.func114 rfl rfl fun _ _ _=> ?_
 (repeat'((conv=>whnf);first|refine Ac ?_|refine Ae ?_|refine Aa hD C6 ?_|exact zE))
theorem LK {c:Nat} {k:Bool} {b:List UInt8} {ks:List Tr} (ht:(Tr.mk c 2 k b ks).gn):Ab Tryz.prog 114 [trF (.mk c 2 k b ks)] (fun r=>r=gnF (Bg (.mk c 2 k b ks))):=by
 obtain⟨h1,h2,h3,h4,h5,h6,h7⟩:=ht
 have hD:=Ih 22 b (by have:=h1;simp only[Tr.v] at this;omega)
 rw[show Bg (.mk c 2 k b ks)=⟨2,[],Cw 22 b,[],[],0,[],0,[]⟩ from rfl]
 clear h1 h2 h3 h4 h5 h6 h7
 rw[Bt]
 refine acQ 73 Tryz.func114 rfl rfl fun _ _ _=> ?_
 (repeat'((conv=>whnf);first|refine Ac ?_|refine Ae ?_|refine Aa hD C6 ?_|exact zE))
theorem LL {c:Nat} {k:Bool} {b:List UInt8} {ks:List Tr} (ht:(Tr.mk c 6 k b ks).gn):Ab Tryz.prog 114 [trF (.mk c 6 k b ks)] (fun r=>r=gnF (Bg (.mk c 6 k b ks))):=by
 obtain⟨h1,h2,h3,h4,h5,h6,h7⟩:=ht
 have hD:=Ih 22 b (by have:=h1;simp only[Tr.v] at this;omega)
 rw[show Bg (.mk c 6 k b ks)=⟨6,[],Cw 22 b,[],[],0,[],0,[]⟩ from rfl]
 clear h1 h2 h3 h4 h5 h6 h7
 rw[Bt]
 refine acQ 73 Tryz.func114 rfl rfl fun _ _ _=> ?_
 (repeat'((conv=>whnf);first|refine Ac ?_|refine Ae ?_|refine Aa hD C6 ?_|exact zE))
theorem LM {c:Nat} {k:Bool} {b:List UInt8} {ks:List Tr} (ht:(Tr.mk c 3 k b ks).gn):Ab Tryz.prog 114 [trF (.mk c 3 k b ks)] (fun r=>r=gnF (Bg (.mk c 3 k b ks))):=by
 obtain⟨h1,h2,h3,h4,h5,h6,h7⟩:=ht
 have hI:=gI _ h3
 rw[show Bg (.mk c 3 k b ks)=⟨3,[],[],Tr.encs (Tr.mk c 3 k b ks).ks,[],0,[],0,[]⟩ from rfl]
 generalize Tr.encs _=e at hI⊢
 clear h1 h2 h3 h4 h5 h6 h7
 simp only[Bt] at hI⊢
 refine acQ 73 Tryz.func114 rfl rfl fun _ _ _=> ?_
 (repeat'((conv=>whnf);first|refine Ac ?_|refine Ae ?_|refine Aa hI C6 ?_|exact zE))
theorem LN {c:Nat} {k:Bool} {b:List UInt8} {ks:List Tr} (ht:(Tr.mk c 4 k b ks).gn):Ab Tryz.prog 114 [trF (.mk c 4 k b ks)] (fun r=>r=gnF (Bg (.mk c 4 k b ks))):=by
 obtain⟨h1,h2,h3,h4,h5,h6,h7⟩:=ht
 have hK0:=Ig (.mk c 4 k b ks) 0 (by omega)
 have hN:=zM _ h5
 rw[show Bg (.mk c 4 k b ks)=⟨4,[],[],[],M0 ((Tr.mk c 4 k b ks).kid 0),0,[],0,[]⟩ from rfl]
 generalize M0 _=nm at hN⊢
 generalize (Tr.mk c 4 k b ks).kid 0=k0 at hK0 hN
 clear h1 h2 h3 h4 h5 h6 h7
 obtain⟨c0,n0,j0,b0,ks0⟩:=k0
 simp only[Bt] at hK0 hN⊢
 refine acQ 73 Tryz.func114 rfl rfl fun _ _ _=> ?_
 (repeat'((conv=>whnf);first|refine Ac ?_|refine Ae ?_|refine Aa hK0 C6 ?_|refine Aa hN C6 ?_|exact zE))
theorem LO {c:Nat} {k:Bool} {b:List UInt8} {ks:List Tr} (ht:(Tr.mk c 7 k b ks).gn):Ab Tryz.prog 114 [trF (.mk c 7 k b ks)] (fun r=>r=gnF (Bg (.mk c 7 k b ks))):=by
 obtain⟨h1,h2,h3,h4,h5,h6,h7⟩:=ht
 rw[show Bg (.mk c 7 k b ks)=⟨7,[],[],b,[],0,[],0,[]⟩ from rfl]
 clear h1 h2 h3 h4 h5 h6 h7
 rw[Bt]
 refine acQ 73 Tryz.func114 rfl rfl fun _ _ _=> ?_
 (repeat'((conv=>whnf);first|refine Ac ?_|refine Ae ?_|exact zE))
theorem LP {c:Nat} {k:Bool} {b:List UInt8} {ks:List Tr} (ht:(Tr.mk c 8 k b ks).gn):Ab Tryz.prog 114 [trF (.mk c 8 k b ks)] (fun r=>r=gnF (Bg (.mk c 8 k b ks))):=by
 obtain⟨h1,h2,h3,h4,h5,h6,h7⟩:=ht
 have hR:=Mt _ h1
 rw[show Bg (.mk c 8 k b ks)=⟨8,odT (Tr.mk c 8 k b ks).v,[],[],[],0,[],0,[]⟩ from rfl]
 generalize odT _=o at hR⊢
 clear h1 h2 h3 h4 h5 h6 h7
 simp only[Bt] at hR⊢
 refine acQ 73 Tryz.func114 rfl rfl fun _ _ _=> ?_
 (repeat'((conv=>whnf);first|refine Ac ?_|refine Ae ?_|refine Aa hR C6 ?_|exact zE))
theorem LQ {c:Nat} {k:Bool} {b:List UInt8} {ks:List Tr} (ht:(Tr.mk c 5 k b ks).gn):Ab Tryz.prog 114 [trF (.mk c 5 k b ks)] (fun r=>r=gnF (Bg (.mk c 5 k b ks))):=by
 obtain⟨h1,h2,h3,h4,h5,h6,h7⟩:=ht
 have hK0:=Ig (.mk c 5 k b ks) 0 (by omega)
 have hK1:=Ig (.mk c 5 k b ks) 1 (by omega)
 have hI:=FP ((Tr.mk c 5 k b ks).kid 0) 2 0 true
 rw[NQ] at hI
 rw[show Bg (.mk c 5 k b ks)=if isT ((Tr.mk c 5 k b ks).kid 0) 2 0 true then⟨5,[],[],[],[],N0 (((Tr.mk c 5 k b ks).kid 0).kid 0),N1 (((Tr.mk c 5 k b ks).kid 0).kid 0),N0 (((Tr.mk c 5 k b ks).kid 1).kid 0),N1 (((Tr.mk c 5 k b ks).kid 1).kid 0)⟩ else⟨5,[],[],[],[],0,[],N0 (((Tr.mk c 5 k b ks).kid 0).kid 0),N1 (((Tr.mk c 5 k b ks).kid 0).kid 0)⟩ from rfl]
 generalize (Tr.mk c 5 k b ks).kid 0=k0 at hK0 hI h6⊢
 generalize (Tr.mk c 5 k b ks).kid 1=k1 at hK1 h7⊢
 have hJ0:=Ig k0 0 (by omega)
 have hJ1:=Ig k1 0 (by omega)
 have hS0:=gG _ h6
 have hS1:=gG _ h7
 generalize N0 (k0.kid 0)=a1 at hS0⊢
 generalize N1 (k0.kid 0)=a2 at hS0⊢
 generalize N0 (k1.kid 0)=p1 at hS1⊢
 generalize N1 (k1.kid 0)=p2 at hS1⊢
 generalize k0.kid 0=j0 at hJ0 hS0
 generalize k1.kid 0=j1 at hJ1 hS1
 clear h1 h2 h3 h4 h5 h6 h7
 cases hq:isT k0 2 0 true
 ·rw[hq] at hI
  rw[if_neg (by simp)]
  clear hq
  obtain⟨c0,n0,l0,b0,ks0⟩:=k0
  obtain⟨d0,m0,i0,x0,kt0⟩:=j0
  simp only[Bt] at hK0 hI hJ0 hS0⊢
  refine acQ 73 Tryz.func114 rfl rfl fun _ _ _=> ?_
  (repeat'((conv=>whnf);first|refine Ac ?_|refine Ae ?_|refine Aa hK0 C6 ?_|refine Aa hI C6 ?_|refine Aa hJ0 C6 ?_|refine Aa hS0 C6 ?_|exact zE))
 ·rw[hq] at hI
  rw[if_pos rfl]
  clear hq
  obtain⟨c0,n0,l0,b0,ks0⟩:=k0
  obtain⟨d0,m0,i0,x0,kt0⟩:=j0
  obtain⟨c1,n1,l1,b1,ks1⟩:=k1
  obtain⟨d1,m1,i1,x1,kt1⟩:=j1
  simp only[Bt] at hK0 hK1 hI hJ0 hS0 hJ1 hS1⊢
  refine acQ 73 Tryz.func114 rfl rfl fun _ _ _=> ?_
  (repeat'((conv=>whnf);first|refine Ac ?_|refine Ae ?_|refine Aa hK0 C6 ?_|refine Aa hI C6 ?_|refine Aa hJ0 C6 ?_|refine Aa hS0 C6 ?_|refine Aa hK1 C6 ?_|refine Aa hJ1 C6 ?_|refine Aa hS1 C6 ?_|exact zE))
theorem AA (t:Tr) (ht:t.gn):Ab Tryz.prog 114 [trF t] (fun r=>r=gnF (Bg t)):=by
 obtain⟨c,n,k,b,ks⟩:=t
 by_cases hn:n≤8
 ·rcases(by omega:n=0∨n=1∨n=2∨n=3∨n=4∨n=5∨n=6∨n=7∨n=8) with rfl|rfl|rfl|rfl|rfl|rfl|rfl|rfl|rfl
  ·exact LI ht
  ·exact LJ ht
  ·exact LK ht
  ·exact LM ht
  ·exact LN ht
  ·exact LQ ht
  ·exact LL ht
  ·exact LO ht
  ·exact LP ht
 ·have e:Bg (.mk c n k b ks)=⟨n,[],[],[],[],0,[],0,[]⟩:=by
   obtain⟨m,rfl⟩:∃m,n=m+9:=⟨n-9,by omega⟩
   rfl
  rw[e,Bt]
  have g0:((n:Int)==0)=false:=beq_eq_false_iff_ne.2 (by omega)
  have g1:((n:Int)==1)=false:=beq_eq_false_iff_ne.2 (by omega)
  have g2:((n:Int)==2)=false:=beq_eq_false_iff_ne.2 (by omega)
  have g3:((n:Int)==3)=false:=beq_eq_false_iff_ne.2 (by omega)
  have g4:((n:Int)==4)=false:=beq_eq_false_iff_ne.2 (by omega)
  have g5:((n:Int)==5)=false:=beq_eq_false_iff_ne.2 (by omega)
  have g6:((n:Int)==6)=false:=beq_eq_false_iff_ne.2 (by omega)
  have g7:((n:Int)==7)=false:=beq_eq_false_iff_ne.2 (by omega)
  have g8:((n:Int)==8)=false:=beq_eq_false_iff_ne.2 (by omega)
  refine acQ 73 Tryz.func114 rfl rfl fun _ _ _=> ?_
  (repeat'((conv=>whnf);refine zN ?_));(all_goals(conv=>whnf))
  all_goals exact zE
end Go.Proofs.YtaoahmplnckhpaaGreatDoor
