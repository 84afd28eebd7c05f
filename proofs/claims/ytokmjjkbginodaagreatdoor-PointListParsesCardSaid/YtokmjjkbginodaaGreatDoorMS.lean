/- MS: the texts R13V R13M R13R, one behind the other. No condition but what each lemma says. -/
import Derived.Test.YtokmjjkbginodaaGreatDoorMR
set_option maxRecDepth 100000
set_option maxHeartbeats 16000000
namespace Go.Proofs.YtokmjjkbginodaaGreatDoor
open Go.RowKit
def stB (a b c d e:Bool) (g:Gn):Gn:=⟨0,if a then [] else g.oid,if b then [] else g.tx,if c then [] else g.by',if d then [] else g.nm,if e then 0 else g.ak,if e then [] else g.av,if e then 0 else g.pk,if e then [] else g.pv⟩
theorem QK {α:Type} [BEq α] (l:List α):((l.length:Int)==0)=decide (l=[]):=by
 cases l with
 |nil=>rfl
 |cons a r=>rw[decide_eq_false (by simp)];exact beq_eq_false_iff_ne.2 (by simp;omega)
theorem Lu (a b c d e:Bool) (g:Gn):decide (stB a b c d e g=gz)=alB a b c d e g:=by
 obtain⟨k,o,t,b1,n,ak,av,pk,pv⟩:=g
 unfold stB gz alB zT
 simp only[QK]
 rw[Bool.eq_iff_iff]
 cases a<;>cases b<;>cases c<;>cases d<;>cases e<;>simp[and_assoc]
def okG (g:Gn):Bool:=
 if g.k=0 then E6 g.oid&&Er g.by' else if g.k=1∨g.k=2∨g.k=6 then Aq 22 g.tx
 else if g.k=3 then Er (Ah 2 3 true g.by') else if g.k=4 then nmV g.nm
 else if g.k=5 then(zT g.ak g.av||fiB g.ak g.av)&&fiB g.pk g.pv
 else if g.k=7 then ip g.by'.length else if g.k=8 then E6 g.oid else false
theorem Ip {k:Int} {l:List UInt8} (h:fiB k l=true):Aq k l=true:=by unfold fiB at h;simp at h;exact h.1
theorem Jg (g:Gn):gnW g=(okG g&&Cr g):=by
 rw[Bool.eq_iff_iff]
 unfold gnW okG S9 En Hz
 simp only[At]
 by_cases h0:g.k=0
 ·rw[if_pos h0,if_pos h0,if_pos h0,h0];cases E6 g.oid<;>simp;exact and_comm
 rw[if_neg h0,if_neg h0,if_neg h0]
 by_cases h1:g.k=1∨g.k=2∨g.k=6
 ·rw[if_pos h1,if_pos h1,if_neg (by omega),if_neg (by omega),show(g.k==5)=false from beq_eq_false_iff_ne.2 (by omega)];cases Aq 22 g.tx<;>simp
 rw[if_neg h1,if_neg h1]
 by_cases h3:g.k=3
 ·rw[if_pos h3,if_pos h3,if_pos (.inl h3),h3];simp;exact and_comm
 rw[if_neg h3,if_neg h3]
 by_cases h4:g.k=4
 ·rw[if_pos h4,if_neg (by omega),if_neg (by omega),if_pos h4,h4];cases nmV g.nm<;>simp
 rw[if_neg h4]
 by_cases h5:g.k=5
 ·rw[if_pos h5,if_neg (by omega),if_neg (by omega),if_neg h4,if_pos h5,h5]
  unfold M8
  constructor
  ·rintro⟨a,h0,h1,h⟩;exact⟨by simpa using h,a⟩
  ·rintro⟨h,a⟩
   rw[At] at h
   obtain⟨h1,h2⟩:=h
   refine⟨a,rfl,?_,by simp[h1,h2]⟩
   rw[if_pos]
   ·rfl
   ·rw[At]
    refine⟨?_,Ip h2⟩
    rcases Bool.or_eq_true_iff.1 h1 with h|h
    ·rw[h];rfl
    ·rw[Ip h,Bool.or_true]
 rw[if_neg h5]
 by_cases h7:g.k=7
 ·rw[if_pos h7,if_pos h7,if_pos (.inr h7),h7];simp;exact and_comm
 rw[if_neg h7,if_neg h7]
 rw[if_neg (by omega),if_neg h4,if_neg h5,show(g.k==5)=false from beq_eq_false_iff_ne.2 h5]
 by_cases h8:g.k=8
 ·rw[if_pos h8,if_pos h8];cases E6 g.oid<;>simp
 ·rw[if_neg h8,if_neg h8];simp
theorem Lv {n:List (List Att)} (h:nmZ n):IC n:=⟨by have:=h.l;omega,fun r hr=>⟨by have:=(h.r r hr).l;omega,fun a ha=>⟨by have:=((h.r r hr).a a ha).v;omega⟩⟩⟩
structure Gn.zz (g:Gn):Prop where
 o:g.oid.length≤3000000
 t:g.tx.length≤3000000
 b:g.by'.length≤3000000
 n:nmZ g.nm
 a:g.av.length≤3000000
 p:g.pv.length≤3000000
theorem Gn.sm.z {g:Gn} (h:g.sm):g.zz:=⟨h.o,h.t,h.b,h.n,h.a,h.p⟩
theorem Gn.zz.s {g:Gn} (h:g.zz):g.sm:=⟨h.o,h.t,h.b,h.n,h.a,h.p⟩
theorem Gn.zz.q {g:Gn} (h:g.zz):g.eqs:=⟨by have:=h.b;omega,Lv h.n⟩
theorem Lw:gz.eqs:=⟨by simp[gz],by simp[gz,IC]⟩
theorem J2 {p:Prop} (h:p:=by first|rfl|(simp only[AV.gives,AV.ren,AV.give,D.un,D.uns,An,Ao,List.nil_append,List.append_nil,List.cons_append,Av,A9,Ca,Bn,Bd,B8,Ck,Bw,Bl,Bx,Bf];first|done|rfl)):p:=h
theorem F3 {p:Prop} (h:p:=by((try simp only[AV.gives,AV.ren,AV.give,D.un,D.uns,An,Ao,List.nil_append,List.append_nil,List.cons_append,Av,A9,Ca,Bn,Bd,B8,Ck,Bw,Bl,Bx,Bf]);(repeat'(first|exact trivial|exact Be _|refine And.intro ?_ ?_|exact rfl|exact Or.inr rfl|exact Or.inl rfl|exact Or.inl (by rfl)|omega|refine Or.inr ?_));first|done|fail)):p:=h
theorem MK {o t b1:List UInt8} {n:List (List Att)} {ak:Int} {av:List UInt8} {pk:Int} {pv:List UInt8} (hs:(⟨0,o,t,b1,n,ak,av,pk,pv⟩:Gn).zz):Ab Tryz.prog 126 [gnA ⟨0,o,t,b1,n,ak,av,pk,pv⟩] (fun r=>r=bv (gnW ⟨0,o,t,b1,n,ak,av,pk,pv⟩)):=by
 have hG:=D1 ⟨0,[],t,[],n,ak,av,pk,pv⟩ gz ⟨by simp,Lv hs.n⟩ Lw
 obtain⟨s1,s2,s3,s4,s5,s6⟩:=hs
 simp only at s1 s2 s3 s4 s5 s6
 rw[show decide ((⟨0,[],t,[],n,ak,av,pk,pv⟩:Gn)=gz)=Cr ⟨0,o,t,b1,n,ak,av,pk,pv⟩ from Lu true false true false false ⟨0,o,t,b1,n,ak,av,pk,pv⟩] at hG
 rw[Jg,show okG ⟨0,o,t,b1,n,ak,av,pk,pv⟩=(E6 o&&Er b1) from rfl]
 generalize Cr _=A at hG⊢
 have hV:=Kf o (by omega)
 have hO:=Pj b1 (by omega)
 cases h1:E6 o
 ·rw[h1] at hV
  refine acQ 100 Tryz.func126 rfl rfl fun _ _ _=> ?_
  (repeat'((conv=>whnf);first|refine Ac ?_|refine Ae ?_|refine Aa hV rfl ?_|exact zE))
 rw[h1] at hV
 cases h2:Er b1
 ·rw[h2] at hO
  refine acQ 100 Tryz.func126 rfl rfl fun _ _ _=> ?_
  (repeat'((conv=>whnf);first|refine Ac ?_|refine Ae ?_|refine Aa hV rfl ?_|refine Aa hO J2 ?_|exact zE))
 ·rw[h2] at hO
  refine acQ 100 Tryz.func126 rfl rfl fun _ _ _=> ?_
  (repeat'((conv=>whnf);first|refine Ac ?_|refine Aa hV rfl ?_|refine Aa hO J2 ?_|refine Bk hG F3 ?_|exact zE))
theorem ML {o t b1:List UInt8} {n:List (List Att)} {ak:Int} {av:List UInt8} {pk:Int} {pv:List UInt8} (hs:(⟨1,o,t,b1,n,ak,av,pk,pv⟩:Gn).zz):Ab Tryz.prog 126 [gnA ⟨1,o,t,b1,n,ak,av,pk,pv⟩] (fun r=>r=bv (gnW ⟨1,o,t,b1,n,ak,av,pk,pv⟩)):=by
 have hG:=D1 ⟨0,o,[],b1,n,ak,av,pk,pv⟩ gz ⟨by have:=hs.b;simp only at this⊢;omega,Lv hs.n⟩ Lw
 obtain⟨s1,s2,s3,s4,s5,s6⟩:=hs
 simp only at s1 s2 s3 s4 s5 s6
 rw[show decide ((⟨0,o,[],b1,n,ak,av,pk,pv⟩:Gn)=gz)=Cr ⟨1,o,t,b1,n,ak,av,pk,pv⟩ from Lu false true false false false ⟨1,o,t,b1,n,ak,av,pk,pv⟩] at hG
 rw[Jg,show okG ⟨1,o,t,b1,n,ak,av,pk,pv⟩=(Aq 22 t) from rfl]
 generalize Cr _=A at hG⊢
 have hV:=H9 22 t (by omega)
 cases h1:Aq 22 t
 ·rw[h1] at hV
  refine acQ 100 Tryz.func126 rfl rfl fun _ _ _=> ?_
  (repeat'((conv=>whnf);first|refine Ac ?_|refine Ae ?_|refine Aa hV rfl ?_|exact zE))
 ·rw[h1] at hV
  refine acQ 100 Tryz.func126 rfl rfl fun _ _ _=> ?_
  (repeat'((conv=>whnf);first|refine Ac ?_|refine Ae ?_|refine Aa hV rfl ?_|refine Bk hG F3 ?_|exact zE))
theorem MM {o t b1:List UInt8} {n:List (List Att)} {ak:Int} {av:List UInt8} {pk:Int} {pv:List UInt8} (hs:(⟨2,o,t,b1,n,ak,av,pk,pv⟩:Gn).zz):Ab Tryz.prog 126 [gnA ⟨2,o,t,b1,n,ak,av,pk,pv⟩] (fun r=>r=bv (gnW ⟨2,o,t,b1,n,ak,av,pk,pv⟩)):=by
 have hG:=D1 ⟨0,o,[],b1,n,ak,av,pk,pv⟩ gz ⟨by have:=hs.b;simp only at this⊢;omega,Lv hs.n⟩ Lw
 obtain⟨s1,s2,s3,s4,s5,s6⟩:=hs
 simp only at s1 s2 s3 s4 s5 s6
 rw[show decide ((⟨0,o,[],b1,n,ak,av,pk,pv⟩:Gn)=gz)=Cr ⟨2,o,t,b1,n,ak,av,pk,pv⟩ from Lu false true false false false ⟨2,o,t,b1,n,ak,av,pk,pv⟩] at hG
 rw[Jg,show okG ⟨2,o,t,b1,n,ak,av,pk,pv⟩=(Aq 22 t) from rfl]
 generalize Cr _=A at hG⊢
 have hV:=H9 22 t (by omega)
 cases h1:Aq 22 t
 ·rw[h1] at hV
  refine acQ 100 Tryz.func126 rfl rfl fun _ _ _=> ?_
  (repeat'((conv=>whnf);first|refine Ac ?_|refine Ae ?_|refine Aa hV rfl ?_|exact zE))
 ·rw[h1] at hV
  refine acQ 100 Tryz.func126 rfl rfl fun _ _ _=> ?_
  (repeat'((conv=>whnf);first|refine Ac ?_|refine Ae ?_|refine Aa hV rfl ?_|refine Bk hG F3 ?_|exact zE))
theorem MN {o t b1:List UInt8} {n:List (List Att)} {ak:Int} {av:List UInt8} {pk:Int} {pv:List UInt8} (hs:(⟨6,o,t,b1,n,ak,av,pk,pv⟩:Gn).zz):Ab Tryz.prog 126 [gnA ⟨6,o,t,b1,n,ak,av,pk,pv⟩] (fun r=>r=bv (gnW ⟨6,o,t,b1,n,ak,av,pk,pv⟩)):=by
 have hG:=D1 ⟨0,o,[],b1,n,ak,av,pk,pv⟩ gz ⟨by have:=hs.b;simp only at this⊢;omega,Lv hs.n⟩ Lw
 obtain⟨s1,s2,s3,s4,s5,s6⟩:=hs
 simp only at s1 s2 s3 s4 s5 s6
 rw[show decide ((⟨0,o,[],b1,n,ak,av,pk,pv⟩:Gn)=gz)=Cr ⟨6,o,t,b1,n,ak,av,pk,pv⟩ from Lu false true false false false ⟨6,o,t,b1,n,ak,av,pk,pv⟩] at hG
 rw[Jg,show okG ⟨6,o,t,b1,n,ak,av,pk,pv⟩=(Aq 22 t) from rfl]
 generalize Cr _=A at hG⊢
 have hV:=H9 22 t (by omega)
 cases h1:Aq 22 t
 ·rw[h1] at hV
  refine acQ 100 Tryz.func126 rfl rfl fun _ _ _=> ?_
  (repeat'((conv=>whnf);first|refine Ac ?_|refine Ae ?_|refine Aa hV rfl ?_|exact zE))
 ·rw[h1] at hV
  refine acQ 100 Tryz.func126 rfl rfl fun _ _ _=> ?_
  (repeat'((conv=>whnf);first|refine Ac ?_|refine Ae ?_|refine Aa hV rfl ?_|refine Bk hG F3 ?_|exact zE))
theorem MO {o t b1:List UInt8} {n:List (List Att)} {ak:Int} {av:List UInt8} {pk:Int} {pv:List UInt8} (hs:(⟨3,o,t,b1,n,ak,av,pk,pv⟩:Gn).zz):Ab Tryz.prog 126 [gnA ⟨3,o,t,b1,n,ak,av,pk,pv⟩] (fun r=>r=bv (gnW ⟨3,o,t,b1,n,ak,av,pk,pv⟩)):=by
 have hG:=D1 ⟨0,o,t,[],n,ak,av,pk,pv⟩ gz ⟨by simp,Lv hs.n⟩ Lw
 obtain⟨s1,s2,s3,s4,s5,s6⟩:=hs
 simp only at s1 s2 s3 s4 s5 s6
 rw[show decide ((⟨0,o,t,[],n,ak,av,pk,pv⟩:Gn)=gz)=Cr ⟨3,o,t,b1,n,ak,av,pk,pv⟩ from Lu false false true false false ⟨3,o,t,b1,n,ak,av,pk,pv⟩] at hG
 rw[Jg,show okG ⟨3,o,t,b1,n,ak,av,pk,pv⟩=(Er (Ah 2 3 true b1)) from rfl]
 generalize Cr _=A at hG⊢
 have hP:Ab Tryz.prog 94 [cv 163,.d (Af false b1)] (fun r=>r=Bb 0 5 (Ah 2 3 true b1)):=Dc 163 b1 (by omega)
 have hl:=As 2 3 true b1 (by omega)
 have hV:=Pj (Ah 2 3 true b1) (by omega)
 cases h1:Er (Ah 2 3 true b1)
 ·rw[h1] at hV
  refine acQ 100 Tryz.func126 rfl rfl fun _ _ _=> ?_
  (repeat'((conv=>whnf);first|refine Ac ?_|refine Ae ?_|refine Aa hP J2 ?_|refine Aa hV J2 ?_|exact zE))
 ·rw[h1] at hV
  refine acQ 100 Tryz.func126 rfl rfl fun _ _ _=> ?_
  (repeat'((conv=>whnf);first|refine Ac ?_|refine Ae ?_|refine Aa hP J2 ?_|refine Aa hV J2 ?_|refine Bk hG F3 ?_|exact zE))
theorem MP {o t b1:List UInt8} {n:List (List Att)} {ak:Int} {av:List UInt8} {pk:Int} {pv:List UInt8} (hs:(⟨4,o,t,b1,n,ak,av,pk,pv⟩:Gn).zz):Ab Tryz.prog 126 [gnA ⟨4,o,t,b1,n,ak,av,pk,pv⟩] (fun r=>r=bv (gnW ⟨4,o,t,b1,n,ak,av,pk,pv⟩)):=by
 have hG:=D1 ⟨0,o,t,b1,[],ak,av,pk,pv⟩ gz ⟨by have:=hs.b;simp only at this⊢;omega,by simp[IC]⟩ Lw
 obtain⟨s1,s2,s3,s4,s5,s6⟩:=hs
 simp only at s1 s2 s3 s4 s5 s6
 rw[show decide ((⟨0,o,t,b1,[],ak,av,pk,pv⟩:Gn)=gz)=Cr ⟨4,o,t,b1,n,ak,av,pk,pv⟩ from Lu false false false true false ⟨4,o,t,b1,n,ak,av,pk,pv⟩] at hG
 rw[Jg,show okG ⟨4,o,t,b1,n,ak,av,pk,pv⟩=(nmV n) from rfl]
 generalize Cr _=A at hG⊢
 have hV:=gS n s4
 cases h1:nmV n
 ·rw[h1] at hV
  refine acQ 100 Tryz.func126 rfl rfl fun _ _ _=> ?_
  (repeat'((conv=>whnf);first|refine Ac ?_|refine Ae ?_|refine Aa hV J2 ?_|exact zE))
 ·rw[h1] at hV
  refine acQ 100 Tryz.func126 rfl rfl fun _ _ _=> ?_
  (repeat'((conv=>whnf);first|refine Ac ?_|refine Ae ?_|refine Aa hV J2 ?_|refine Bk hG F3 ?_|exact zE))
theorem MQ {o t b1:List UInt8} {n:List (List Att)} {ak:Int} {av:List UInt8} {pk:Int} {pv:List UInt8} (hs:(⟨8,o,t,b1,n,ak,av,pk,pv⟩:Gn).zz):Ab Tryz.prog 126 [gnA ⟨8,o,t,b1,n,ak,av,pk,pv⟩] (fun r=>r=bv (gnW ⟨8,o,t,b1,n,ak,av,pk,pv⟩)):=by
 have hG:=D1 ⟨0,[],t,b1,n,ak,av,pk,pv⟩ gz ⟨by have:=hs.b;simp only at this⊢;omega,Lv hs.n⟩ Lw
 obtain⟨s1,s2,s3,s4,s5,s6⟩:=hs
 simp only at s1 s2 s3 s4 s5 s6
 rw[show decide ((⟨0,[],t,b1,n,ak,av,pk,pv⟩:Gn)=gz)=Cr ⟨8,o,t,b1,n,ak,av,pk,pv⟩ from Lu true false false false false ⟨8,o,t,b1,n,ak,av,pk,pv⟩] at hG
 rw[Jg,show okG ⟨8,o,t,b1,n,ak,av,pk,pv⟩=(E6 o) from rfl]
 generalize Cr _=A at hG⊢
 have hV:=Kf o (by omega)
 cases h1:E6 o
 ·rw[h1] at hV
  refine acQ 100 Tryz.func126 rfl rfl fun _ _ _=> ?_
  (repeat'((conv=>whnf);first|refine Ac ?_|refine Ae ?_|refine Aa hV rfl ?_|exact zE))
 ·rw[h1] at hV
  refine acQ 100 Tryz.func126 rfl rfl fun _ _ _=> ?_
  (repeat'((conv=>whnf);first|refine Ac ?_|refine Ae ?_|refine Aa hV rfl ?_|refine Bk hG F3 ?_|exact zE))
theorem MR {o t b1:List UInt8} {n:List (List Att)} {ak:Int} {av:List UInt8} {pk:Int} {pv:List UInt8} (hs:(⟨5,o,t,b1,n,ak,av,pk,pv⟩:Gn).zz):Ab Tryz.prog 126 [gnA ⟨5,o,t,b1,n,ak,av,pk,pv⟩] (fun r=>r=bv (gnW ⟨5,o,t,b1,n,ak,av,pk,pv⟩)):=by
 have hG:=D1 ⟨0,o,t,b1,n,0,[],0,[]⟩ gz ⟨by have:=hs.b;simp only at this⊢;omega,Lv hs.n⟩ Lw
 obtain⟨s1,s2,s3,s4,s5,s6⟩:=hs
 simp only at s1 s2 s3 s4 s5 s6
 rw[show decide ((⟨0,o,t,b1,n,0,[],0,[]⟩:Gn)=gz)=Cr ⟨5,o,t,b1,n,ak,av,pk,pv⟩ from Lu false false false false true ⟨5,o,t,b1,n,ak,av,pk,pv⟩] at hG
 rw[Jg,show okG ⟨5,o,t,b1,n,ak,av,pk,pv⟩=((zT ak av||fiB ak av)&&fiB pk pv) from rfl]
 generalize Cr _=A at hG⊢
 have hV:=Y9 ak av (by omega)
 have hQ:=Y9 pk pv (by omega)
 have hz:zT ak av=(ak==0&&av==[]):=rfl
 cases h1:zT ak av
 ·rw[h1] at hz
  have hz:=hz.symm
  cases h2:fiB ak av
  ·rw[h2] at hV
   refine acQ 100 Tryz.func126 rfl rfl fun _ _ _=> ?_
   (repeat'((conv=>whnf);first|refine zN ?_|refine Ac ?_|refine Ae ?_|refine Aj (Eb rfl rfl (ltN rfl) rfl rfl) ?_|refine Aa hV rfl ?_|exact zE))
  ·rw[h2] at hV
   cases h3:fiB pk pv
   ·rw[h3] at hQ
    refine acQ 100 Tryz.func126 rfl rfl fun _ _ _=> ?_
    (repeat'((conv=>whnf);first|refine zN ?_|refine Ac ?_|refine Ae ?_|refine Aj (Eb rfl rfl (ltN rfl) rfl rfl) ?_|refine Aa hV rfl ?_|refine Aa hQ rfl ?_|exact zE))
   ·rw[h3] at hQ
    refine acQ 100 Tryz.func126 rfl rfl fun _ _ _=> ?_
    (repeat'((conv=>whnf);first|refine zN ?_|refine Ac ?_|refine Ae ?_|refine Aj (Eb rfl rfl (ltN rfl) rfl rfl) ?_|refine Aa hV rfl ?_|refine Aa hQ rfl ?_|refine Bk hG F3 ?_|exact zE))
 ·rw[h1] at hz
  have hz:=hz.symm
  cases h3:fiB pk pv
  ·rw[h3] at hQ
   refine acQ 100 Tryz.func126 rfl rfl fun _ _ _=> ?_
   (repeat'((conv=>whnf);first|refine zP ?_|refine Ac ?_|refine Ae ?_|refine Aj (Eb rfl rfl (ltN rfl) rfl rfl) ?_|refine Aa hQ rfl ?_|exact zE))
  ·rw[h3] at hQ
   refine acQ 100 Tryz.func126 rfl rfl fun _ _ _=> ?_
   (repeat'((conv=>whnf);first|refine zP ?_|refine Ac ?_|refine Ae ?_|refine Aj (Eb rfl rfl (ltN rfl) rfl rfl) ?_|refine Aa hQ rfl ?_|refine Bk hG F3 ?_|exact zE))
theorem MS {o t b1:List UInt8} {n:List (List Att)} {ak:Int} {av:List UInt8} {pk:Int} {pv:List UInt8} (hs:(⟨7,o,t,b1,n,ak,av,pk,pv⟩:Gn).zz):Ab Tryz.prog 126 [gnA ⟨7,o,t,b1,n,ak,av,pk,pv⟩] (fun r=>r=bv (gnW ⟨7,o,t,b1,n,ak,av,pk,pv⟩)):=by
 have hG:=D1 ⟨0,o,t,[],n,ak,av,pk,pv⟩ gz ⟨by simp,Lv hs.n⟩ Lw
 obtain⟨s1,s2,s3,s4,s5,s6⟩:=hs
 simp only at s1 s2 s3 s4 s5 s6
 rw[show decide ((⟨0,o,t,[],n,ak,av,pk,pv⟩:Gn)=gz)=Cr ⟨7,o,t,b1,n,ak,av,pk,pv⟩ from Lu false false true false false ⟨7,o,t,b1,n,ak,av,pk,pv⟩] at hG
 rw[Jg,show okG ⟨7,o,t,b1,n,ak,av,pk,pv⟩=(ip b1.length) from rfl]
 generalize Cr _=A at hG⊢
 have e:ip b1.length=(((b1.length:Int)==4)||(((b1.length:Int)==8)||(((b1.length:Int)==16)||((b1.length:Int)==32)))):=by
  unfold ip;rw[Bool.eq_iff_iff];simp;omega
 rw[e]
 cases h1:((b1.length:Int)==4)
 ·cases h2:((b1.length:Int)==8)
  ·cases h3:((b1.length:Int)==16)
   ·cases h4:((b1.length:Int)==32)
    ·refine acQ 100 Tryz.func126 rfl rfl fun _ _ _=> ?_
     (repeat'((conv=>whnf);first|refine zN ?_|refine Ac ?_|refine Ae ?_|exact zE))
    ·refine acQ 100 Tryz.func126 rfl rfl fun _ _ _=> ?_
     (repeat'((conv=>whnf);first|refine zP ?_|refine zN ?_|refine Ac ?_|refine Ae ?_|refine Bk hG F3 ?_|exact zE))
   ·refine acQ 100 Tryz.func126 rfl rfl fun _ _ _=> ?_
    (repeat'((conv=>whnf);first|refine zP ?_|refine zN ?_|refine Ac ?_|refine Ae ?_|refine Bk hG F3 ?_|exact zE))
  ·refine acQ 100 Tryz.func126 rfl rfl fun _ _ _=> ?_
   (repeat'((conv=>whnf);first|refine zP ?_|refine zN ?_|refine Ac ?_|refine Ae ?_|refine Bk hG F3 ?_|exact zE))
 ·refine acQ 100 Tryz.func126 rfl rfl fun _ _ _=> ?_
  (repeat'((conv=>whnf);first|refine zP ?_|refine Ac ?_|refine Ae ?_|refine Bk hG F3 ?_|exact zE))
theorem Fw (g:Gn) (hs:g.zz):Ab Tryz.prog 126 [gnA g] (fun r=>r=bv (gnW g)):=by
 by_cases hk:0≤g.k∧g.k≤8
 ·obtain⟨k,o,t,b1,n,ak,av,pk,pv⟩:=g
  simp only at hk
  rcases(by omega:k=0∨k=1∨k=2∨k=3∨k=4∨k=5∨k=6∨k=7∨k=8) with rfl|rfl|rfl|rfl|rfl|rfl|rfl|rfl|rfl
  ·exact MK hs
  ·exact ML hs
  ·exact MM hs
  ·exact MO hs
  ·exact MP hs
  ·exact MR hs
  ·exact MN hs
  ·exact MS hs
  ·exact MQ hs
 ·have e:gnW g=false:=by
   rw[Jg,show okG g=false from ?_,Bool.false_and]
   unfold okG
   rw[if_neg (by omega),if_neg (by omega),if_neg (by omega),if_neg (by omega),if_neg (by omega),if_neg (by omega),if_neg (by omega)]
  rw[e]
  obtain⟨k,o,t,b1,n,ak,av,pk,pv⟩:=g
  simp only at hk
  have g0:(k==0)=false:=beq_eq_false_iff_ne.2 (by omega)
  have g1:(k==1)=false:=beq_eq_false_iff_ne.2 (by omega)
  have g2:(k==2)=false:=beq_eq_false_iff_ne.2 (by omega)
  have g3:(k==3)=false:=beq_eq_false_iff_ne.2 (by omega)
  have g4:(k==4)=false:=beq_eq_false_iff_ne.2 (by omega)
  have g5:(k==5)=false:=beq_eq_false_iff_ne.2 (by omega)
  have g6:(k==6)=false:=beq_eq_false_iff_ne.2 (by omega)
  have g7:(k==7)=false:=beq_eq_false_iff_ne.2 (by omega)
  have g8:(k==8)=false:=beq_eq_false_iff_ne.2 (by omega)
  refine acQ 100 Tryz.func126 rfl rfl fun _ _ _=> ?_
  (repeat'((conv=>whnf);first|refine zN ?_|refine Ae ?_|exact zE))
theorem H4 {g:Gn} (h:gnW g=true):okG g=true:=by rw[Jg] at h;simp at h;exact h.1
theorem BU {k:Int} {l:List UInt8} (h:fiB k l=true):0<k:=by
 have hv:=Ip h
 have hk:¬Ar k<0:=by unfold Aq at hv;simp at hv;omega
 rcases Dl k hk with rfl|rfl|rfl|rfl|rfl|rfl|rfl<;>omega
theorem BW {k:Int} {l:List UInt8} (h:fiB k l=true) (hl:l.length≤3000000):Ab Tryz.prog 133 [txA k l] (fun r=>r= .tup [Bb 0 5 (txE k l),iv 0]):=by
 have:=BO k l (by omega)
 unfold frS at this
 rw[if_pos (Ip h)] at this
 exact this
theorem Cq {p:Prop} (h:p:=by first|rfl|(simp only[AV.gives,AV.ren,AV.give,D.un,D.uns,An,Ao,List.nil_append,List.append_nil,List.cons_append,Av,A9,Ca,Bn,Bd,B8,Ck,Bw,Bl,Bx,Bf];first|done|rfl)):p:=h
theorem MT {o t b1:List UInt8} {n:List (List Att)} {ak:Int} {av:List UInt8} {pk:Int} {pv:List UInt8} (hs:(⟨0,o,t,b1,n,ak,av,pk,pv⟩:Gn).zz) (hw:gnW ⟨0,o,t,b1,n,ak,av,pk,pv⟩=true):Ab Tryz.prog 97 [gnA ⟨0,o,t,b1,n,ak,av,pk,pv⟩] (fun r=>r= .tup [Bb 0 5 (gnE ⟨0,o,t,b1,n,ak,av,pk,pv⟩),iv 0]):=by
 have hV:=Fw _ hs
 rw[hw] at hV
 have hok:=H4 hw
 clear hw
 obtain⟨s1,s2,s3,s4,s5,s6⟩:=hs
 simp only at s1 s2 s3 s4 s5 s6
 have hok:(E6 o&&Er b1)=true:=hok
 rw[At] at hok
 have hE:gnE ⟨0,o,t,b1,n,ak,av,pk,pv⟩=Ah 2 0 true (Ah 0 6 false (Bq o)++Ah 2 0 true b1):=by
  unfold gnE;rw[show En ⟨0,o,t,b1,n,ak,av,pk,pv⟩=some (Ah 0 6 false (Bq o)++Ah 2 0 true b1) from if_pos hok.1];rfl
 rw[hE]
 have k1:=Fd o
 have k2:=As 0 6 false (Bq o) (by omega)
 have k3:=As 2 0 true b1 (by omega)
 have hO:=Wa o (by omega)
 have hP:Ab Tryz.prog 94 [cv 160,.d (Af false b1)] (fun r=>r=Bb 0 5 (Ah 2 0 true b1)):=Dc 160 b1 (by omega)
 have hQ:Ab Tryz.prog 62 [cv 160,.d (Ds [R1 o,Ah 2 0 true b1])] (fun r=>r=Bb 0 5 (Ah 2 0 true (Ah 0 6 false (Bq o)++Ah 2 0 true b1))):=by
  have:=F1 160 [R1 o,Ah 2 0 true b1] (by simp) (by simp[R1];omega)
  rw[show [R1 o,Ah 2 0 true b1].flatten=Ah 0 6 false (Bq o)++Ah 2 0 true b1 by simp[R1]] at this
  exact this
 generalize Ah 2 0 true (Ah 0 6 false (Bq o)++Ah 2 0 true b1)=E at hQ⊢
 generalize Ah 2 0 true b1=e1 at hP hQ
 generalize R1 o=e2 at hO hQ
 clear hE hok
 refine acQ 106 Tryz.func97 rfl rfl fun _ _ _=> ?_
 (repeat'((conv=>whnf);first|refine Ac ?_|refine Ae ?_|refine Aa hV Cq ?_|refine Aa hO rfl ?_|refine Aa hP Cq ?_|refine Aa hQ Cq ?_|(with_reducible refine NInt.i64 ?_)|(with_reducible refine NInt.u8 ?_)|refine zF ?_|exact zE))
theorem MU {o t b1:List UInt8} {n:List (List Att)} {ak:Int} {av:List UInt8} {pk:Int} {pv:List UInt8} (hs:(⟨1,o,t,b1,n,ak,av,pk,pv⟩:Gn).zz) (hw:gnW ⟨1,o,t,b1,n,ak,av,pk,pv⟩=true):Ab Tryz.prog 97 [gnA ⟨1,o,t,b1,n,ak,av,pk,pv⟩] (fun r=>r= .tup [Bb 0 5 (gnE ⟨1,o,t,b1,n,ak,av,pk,pv⟩),iv 0]):=by
 have hV:=Fw _ hs
 rw[hw] at hV
 have hok:=H4 hw
 clear hw
 obtain⟨s1,s2,s3,s4,s5,s6⟩:=hs
 simp only at s1 s2 s3 s4 s5 s6
 have hok:Aq 22 t=true:=hok
 have hE:gnE ⟨1,o,t,b1,n,ak,av,pk,pv⟩=Ah 2 1 false (chS 22 t):=by
  unfold gnE;rw[show En ⟨1,o,t,b1,n,ak,av,pk,pv⟩=some (chS 22 t) from if_pos hok];rfl
 rw[hE]
 have hC:=Ha 22 t (by omega)
 rw[show Fh 22 t=chS 22 t by unfold Fh;rw[hok];rfl] at hC
 have h4:=Gx hok
 have hP:Ab Tryz.prog 94 [cv 129,.d (Af false (chS 22 t))] (fun r=>r=Bb 0 5 (Ah 2 1 false (chS 22 t))):=Dc 129 (chS 22 t) (by omega)
 generalize Ah 2 1 false (chS 22 t)=E at hP⊢
 generalize chS 22 t=c at hC hP
 clear hE hok h4
 refine acQ 106 Tryz.func97 rfl rfl fun _ _ _=> ?_
 (repeat'((conv=>whnf);first|refine Ae ?_|refine Aa hV Cq ?_|refine Aa hC rfl ?_|refine Aa hP Cq ?_|(with_reducible refine NInt.i64 ?_)|(with_reducible refine NInt.u8 ?_)|exact zE))
theorem MV {o t b1:List UInt8} {n:List (List Att)} {ak:Int} {av:List UInt8} {pk:Int} {pv:List UInt8} (hs:(⟨2,o,t,b1,n,ak,av,pk,pv⟩:Gn).zz) (hw:gnW ⟨2,o,t,b1,n,ak,av,pk,pv⟩=true):Ab Tryz.prog 97 [gnA ⟨2,o,t,b1,n,ak,av,pk,pv⟩] (fun r=>r= .tup [Bb 0 5 (gnE ⟨2,o,t,b1,n,ak,av,pk,pv⟩),iv 0]):=by
 have hV:=Fw _ hs
 rw[hw] at hV
 have hok:=H4 hw
 clear hw
 obtain⟨s1,s2,s3,s4,s5,s6⟩:=hs
 simp only at s1 s2 s3 s4 s5 s6
 have hok:Aq 22 t=true:=hok
 have hE:gnE ⟨2,o,t,b1,n,ak,av,pk,pv⟩=Ah 2 2 false (chS 22 t):=by
  unfold gnE;rw[show En ⟨2,o,t,b1,n,ak,av,pk,pv⟩=some (chS 22 t) from if_pos hok];rfl
 rw[hE]
 have hC:=Ha 22 t (by omega)
 rw[show Fh 22 t=chS 22 t by unfold Fh;rw[hok];rfl] at hC
 have h4:=Gx hok
 have hP:Ab Tryz.prog 94 [cv 130,.d (Af false (chS 22 t))] (fun r=>r=Bb 0 5 (Ah 2 2 false (chS 22 t))):=Dc 130 (chS 22 t) (by omega)
 generalize Ah 2 2 false (chS 22 t)=E at hP⊢
 generalize chS 22 t=c at hC hP
 clear hE hok h4
 refine acQ 106 Tryz.func97 rfl rfl fun _ _ _=> ?_
 (repeat'((conv=>whnf);first|refine Ae ?_|refine Aa hV Cq ?_|refine Aa hC rfl ?_|refine Aa hP Cq ?_|(with_reducible refine NInt.i64 ?_)|(with_reducible refine NInt.u8 ?_)|exact zE))
theorem MW {o t b1:List UInt8} {n:List (List Att)} {ak:Int} {av:List UInt8} {pk:Int} {pv:List UInt8} (hs:(⟨6,o,t,b1,n,ak,av,pk,pv⟩:Gn).zz) (hw:gnW ⟨6,o,t,b1,n,ak,av,pk,pv⟩=true):Ab Tryz.prog 97 [gnA ⟨6,o,t,b1,n,ak,av,pk,pv⟩] (fun r=>r= .tup [Bb 0 5 (gnE ⟨6,o,t,b1,n,ak,av,pk,pv⟩),iv 0]):=by
 have hV:=Fw _ hs
 rw[hw] at hV
 have hok:=H4 hw
 clear hw
 obtain⟨s1,s2,s3,s4,s5,s6⟩:=hs
 simp only at s1 s2 s3 s4 s5 s6
 have hok:Aq 22 t=true:=hok
 have hE:gnE ⟨6,o,t,b1,n,ak,av,pk,pv⟩=Ah 2 6 false (chS 22 t):=by
  unfold gnE;rw[show En ⟨6,o,t,b1,n,ak,av,pk,pv⟩=some (chS 22 t) from if_pos hok];rfl
 rw[hE]
 have hC:=Ha 22 t (by omega)
 rw[show Fh 22 t=chS 22 t by unfold Fh;rw[hok];rfl] at hC
 have h4:=Gx hok
 have hP:Ab Tryz.prog 94 [cv 134,.d (Af false (chS 22 t))] (fun r=>r=Bb 0 5 (Ah 2 6 false (chS 22 t))):=Dc 134 (chS 22 t) (by omega)
 generalize Ah 2 6 false (chS 22 t)=E at hP⊢
 generalize chS 22 t=c at hC hP
 clear hE hok h4
 refine acQ 106 Tryz.func97 rfl rfl fun _ _ _=> ?_
 (repeat'((conv=>whnf);first|refine Ae ?_|refine Aa hV Cq ?_|refine Aa hC rfl ?_|refine Aa hP Cq ?_|(with_reducible refine NInt.i64 ?_)|(with_reducible refine NInt.u8 ?_)|exact zE))
theorem MX {o t b1:List UInt8} {n:List (List Att)} {ak:Int} {av:List UInt8} {pk:Int} {pv:List UInt8} (hs:(⟨3,o,t,b1,n,ak,av,pk,pv⟩:Gn).zz) (hw:gnW ⟨3,o,t,b1,n,ak,av,pk,pv⟩=true):Ab Tryz.prog 97 [gnA ⟨3,o,t,b1,n,ak,av,pk,pv⟩] (fun r=>r= .tup [Bb 0 5 (gnE ⟨3,o,t,b1,n,ak,av,pk,pv⟩),iv 0]):=by
 have hV:=Fw _ hs
 rw[hw] at hV
 have hok:=H4 hw
 clear hw
 obtain⟨s1,s2,s3,s4,s5,s6⟩:=hs
 simp only at s1 s2 s3 s4 s5 s6
 clear hok
 have hE:gnE ⟨3,o,t,b1,n,ak,av,pk,pv⟩=Ah 2 3 true (b1):=by
  unfold gnE;rw[show En ⟨3,o,t,b1,n,ak,av,pk,pv⟩=some (b1) from rfl];rfl
 rw[hE]
 have hP:Ab Tryz.prog 94 [cv 163,.d (Af false b1)] (fun r=>r=Bb 0 5 (Ah 2 3 true b1)):=Dc 163 b1 (by omega)
 generalize Ah 2 3 true b1=E at hP⊢
 clear hE
 refine acQ 106 Tryz.func97 rfl rfl fun _ _ _=> ?_
 (repeat'((conv=>whnf);first|refine Ac ?_|refine Ae ?_|refine Aa hV Cq ?_|refine Aa hP Cq ?_|(with_reducible refine NInt.i64 ?_)|(with_reducible refine NInt.u8 ?_)|exact zE))
theorem MY {o t b1:List UInt8} {n:List (List Att)} {ak:Int} {av:List UInt8} {pk:Int} {pv:List UInt8} (hs:(⟨7,o,t,b1,n,ak,av,pk,pv⟩:Gn).zz) (hw:gnW ⟨7,o,t,b1,n,ak,av,pk,pv⟩=true):Ab Tryz.prog 97 [gnA ⟨7,o,t,b1,n,ak,av,pk,pv⟩] (fun r=>r= .tup [Bb 0 5 (gnE ⟨7,o,t,b1,n,ak,av,pk,pv⟩),iv 0]):=by
 have hV:=Fw _ hs
 rw[hw] at hV
 have hok:=H4 hw
 clear hw
 obtain⟨s1,s2,s3,s4,s5,s6⟩:=hs
 simp only at s1 s2 s3 s4 s5 s6
 clear hok
 have hE:gnE ⟨7,o,t,b1,n,ak,av,pk,pv⟩=Ah 2 7 false (b1):=by
  unfold gnE;rw[show En ⟨7,o,t,b1,n,ak,av,pk,pv⟩=some (b1) from rfl];rfl
 rw[hE]
 have hP:Ab Tryz.prog 94 [cv 135,.d (Af false b1)] (fun r=>r=Bb 0 5 (Ah 2 7 false b1)):=Dc 135 b1 (by omega)
 generalize Ah 2 7 false b1=E at hP⊢
 clear hE
 refine acQ 106 Tryz.func97 rfl rfl fun _ _ _=> ?_
 (repeat'((conv=>whnf);first|refine Ac ?_|refine Ae ?_|refine Aa hV Cq ?_|refine Aa hP Cq ?_|(with_reducible refine NInt.i64 ?_)|(with_reducible refine NInt.u8 ?_)|exact zE))
theorem MZ {o t b1:List UInt8} {n:List (List Att)} {ak:Int} {av:List UInt8} {pk:Int} {pv:List UInt8} (hs:(⟨4,o,t,b1,n,ak,av,pk,pv⟩:Gn).zz) (hw:gnW ⟨4,o,t,b1,n,ak,av,pk,pv⟩=true):Ab Tryz.prog 97 [gnA ⟨4,o,t,b1,n,ak,av,pk,pv⟩] (fun r=>r= .tup [Bb 0 5 (gnE ⟨4,o,t,b1,n,ak,av,pk,pv⟩),iv 0]):=by
 have hV:=Fw _ hs
 rw[hw] at hV
 have hok:=H4 hw
 clear hw
 obtain⟨s1,s2,s3,s4,s5,s6⟩:=hs
 simp only at s1 s2 s3 s4 s5 s6
 have hok:nmV n=true:=hok
 have hE:gnE ⟨4,o,t,b1,n,ak,av,pk,pv⟩=Ah 2 4 true (nmE n):=by
  unfold gnE;rw[show En ⟨4,o,t,b1,n,ak,av,pk,pv⟩=some (nmE n) from if_pos hok];rfl
 rw[hE]
 have hM:=BP n s4
 rw[if_pos hok] at hM
 have k1:=As 0 16 true ((n.map Ct).flatten) (by have:=s4.e;omega)
 have k2:(nmE n).length≤90000006:=by have:=s4.e;unfold nmE;omega
 have hP:Ab Tryz.prog 94 [cv 164,.d (Af false (nmE n))] (fun r=>r=Bb 0 5 (Ah 2 4 true (nmE n))):=Dc 164 (nmE n) (by omega)
 generalize Ah 2 4 true (nmE n)=E at hP⊢
 generalize nmE n=c at hM hP
 clear hE hok k1 k2
 refine acQ 106 Tryz.func97 rfl rfl fun _ _ _=> ?_
 (repeat'((conv=>whnf);first|refine Ac ?_|refine Ae ?_|refine Aa hV Cq ?_|refine Aa hM Cq ?_|refine Aa hP Cq ?_|(with_reducible refine NInt.i64 ?_)|(with_reducible refine NInt.u8 ?_)|exact zE))
theorem NB {o t b1:List UInt8} {n:List (List Att)} {ak:Int} {av:List UInt8} {pk:Int} {pv:List UInt8} (hs:(⟨8,o,t,b1,n,ak,av,pk,pv⟩:Gn).zz) (hw:gnW ⟨8,o,t,b1,n,ak,av,pk,pv⟩=true):Ab Tryz.prog 97 [gnA ⟨8,o,t,b1,n,ak,av,pk,pv⟩] (fun r=>r= .tup [Bb 0 5 (gnE ⟨8,o,t,b1,n,ak,av,pk,pv⟩),iv 0]):=by
 have hV:=Fw _ hs
 rw[hw] at hV
 have hok:=H4 hw
 clear hw
 obtain⟨s1,s2,s3,s4,s5,s6⟩:=hs
 simp only at s1 s2 s3 s4 s5 s6
 have hok:E6 o=true:=hok
 have hE:gnE ⟨8,o,t,b1,n,ak,av,pk,pv⟩=Ah 2 8 false (Bq o):=by
  unfold gnE;rw[show En ⟨8,o,t,b1,n,ak,av,pk,pv⟩=some (Bq o) from if_pos hok];rfl
 rw[hE]
 have hC:=Mz o (by omega)
 have k1:=Fd o
 have hP:Ab Tryz.prog 94 [cv 136,.d (Af false (Bq o))] (fun r=>r=Bb 0 5 (Ah 2 8 false (Bq o))):=Dc 136 (Bq o) (by omega)
 generalize Ah 2 8 false (Bq o)=E at hP⊢
 generalize Bq o=c at hC hP
 clear hE hok k1
 refine acQ 106 Tryz.func97 rfl rfl fun _ _ _=> ?_
 (repeat'((conv=>whnf);first|refine Ac ?_|refine Ae ?_|refine Aa hV Cq ?_|refine Aa hC rfl ?_|refine Aa hP Cq ?_|(with_reducible refine NInt.i64 ?_)|(with_reducible refine NInt.u8 ?_)|exact zE))
theorem ND {o t b1:List UInt8} {n:List (List Att)} {ak:Int} {av:List UInt8} {pk:Int} {pv:List UInt8} (hs:(⟨5,o,t,b1,n,ak,av,pk,pv⟩:Gn).zz) (hw:gnW ⟨5,o,t,b1,n,ak,av,pk,pv⟩=true):Ab Tryz.prog 97 [gnA ⟨5,o,t,b1,n,ak,av,pk,pv⟩] (fun r=>r= .tup [Bb 0 5 (gnE ⟨5,o,t,b1,n,ak,av,pk,pv⟩),iv 0]):=by
 have hV:=Fw _ hs
 rw[hw] at hV
 have hok:=H4 hw
 clear hw
 obtain⟨s1,s2,s3,s4,s5,s6⟩:=hs
 simp only at s1 s2 s3 s4 s5 s6
 have hok:((zT ak av||fiB ak av)&&fiB pk pv)=true:=hok
 rw[At] at hok
 obtain⟨h1,h2⟩:=hok
 have hF:=BW h2 s6
 have l2:=Gg (Ip h2) s6
 have x2:=As 2 1 true (txE pk pv) (by omega)
 have hP1:Ab Tryz.prog 94 [cv 161,.d (Af false (txE pk pv))] (fun r=>r=Bb 0 5 (Ah 2 1 true (txE pk pv))):=Dc 161 (txE pk pv) (by omega)
 cases hz:zT ak av
 ·rw[hz,Bool.false_or] at h1
  have hG:=BW h1 s5
  have l1:=Gg (Ip h1) s5
  have x1:=As 2 0 true (txE ak av) (by omega)
  have hP0:Ab Tryz.prog 94 [cv 160,.d (Af false (txE ak av))] (fun r=>r=Bb 0 5 (Ah 2 0 true (txE ak av))):=Dc 160 (txE ak av) (by omega)
  have hE:gnE ⟨5,o,t,b1,n,ak,av,pk,pv⟩=Kb 165 [Ah 2 0 true (txE ak av),Ah 2 1 true (txE pk pv)].flatten:=by
   unfold gnE
   rw[show En ⟨5,o,t,b1,n,ak,av,pk,pv⟩=M8 ⟨5,o,t,b1,n,ak,av,pk,pv⟩ from rfl]
   unfold M8
   simp only
   rw[hz,Ip h1,Ip h2]
   show Ah 2 5 true (Ah 2 0 true (txE ak av)++Ah 2 1 true (txE pk pv))=_
   simp only[List.flatten_cons,List.flatten_nil,List.append_nil]
   rfl
  have hQ:=F1 165 [Ah 2 0 true (txE ak av),Ah 2 1 true (txE pk pv)] (by simp) (by simp;omega)
  rw[←hE] at hQ
  have hQ:Ab Tryz.prog 62 [cv 165,.d (Ds [Ah 2 0 true (txE ak av),Ah 2 1 true (txE pk pv)])] _:=hQ
  generalize gnE _=E at hQ⊢
  have g0:decide ((ak:Int)>0)=true:=decide_eq_true (BU h1)
  generalize Ah 2 0 true (txE ak av)=e0 at hP0 hQ x1
  generalize Ah 2 1 true (txE pk pv)=e1 at hP1 hQ x2
  generalize txE ak av=t0 at hG hP0 l1
  generalize txE pk pv=t1 at hF hP1 l2
  clear hE hz h1 h2
  refine acQ 106 Tryz.func97 rfl rfl fun _ _ _=> ?_
  (repeat'((conv=>whnf);first|refine zP ?_|refine Ac ?_|refine Ae ?_|refine Aa hV Cq ?_|refine Aa hG rfl ?_|refine Aa hP0 Cq ?_|refine Aa hF rfl ?_|refine Aa hP1 Cq ?_|refine Yg Dn e0 ?_|refine A2 Dn e1 ?_|refine Aa hQ Cq ?_|(with_reducible refine NInt.i64 ?_)|(with_reducible refine NInt.u8 ?_)|exact zE))
 ·obtain⟨rfl,rfl⟩:=R6.1 hz
  have hE:gnE ⟨5,o,t,b1,n,0,[],pk,pv⟩=Kb 165 [Ah 2 1 true (txE pk pv)].flatten:=by
   unfold gnE
   rw[show En ⟨5,o,t,b1,n,0,[],pk,pv⟩=M8 ⟨5,o,t,b1,n,0,[],pk,pv⟩ from rfl]
   unfold M8
   simp only
   rw[hz,Ip h2]
   show Ah 2 5 true ([]++Ah 2 1 true (txE pk pv))=_
   simp only[List.flatten_cons,List.flatten_nil,List.append_nil,List.nil_append]
   rfl
  have hQ:=F1 165 [Ah 2 1 true (txE pk pv)] (by simp) (by simp;omega)
  rw[←hE] at hQ
  have hQ:Ab Tryz.prog 62 [cv 165,.d (Ds [Ah 2 1 true (txE pk pv)])] _:=hQ
  generalize gnE _=E at hQ⊢
  generalize Ah 2 1 true (txE pk pv)=e1 at hP1 hQ x2
  generalize txE pk pv=t1 at hF hP1 l2
  clear hE hz h1 h2
  refine acQ 106 Tryz.func97 rfl rfl fun _ _ _=> ?_
  (repeat'((conv=>whnf);first|refine Ac ?_|refine Ae ?_|refine Aa hV Cq ?_|refine Aa hF rfl ?_|refine Aa hP1 Cq ?_|refine Yg Dn e1 ?_|refine Aa hQ Cq ?_|(with_reducible refine NInt.i64 ?_)|(with_reducible refine NInt.u8 ?_)|exact zE))
theorem BY {g:Gn} (h:gnW g=true):g.k=0∨g.k=1∨g.k=2∨g.k=3∨g.k=4∨g.k=5∨g.k=6∨g.k=7∨g.k=8:=by
 have hok:=H4 h
 by_cases hk:g.k=0∨g.k=1∨g.k=2∨g.k=3∨g.k=4∨g.k=5∨g.k=6∨g.k=7∨g.k=8
 ·exact hk
 ·unfold okG at hok
  rw[if_neg (by omega),if_neg (by omega),if_neg (by omega),if_neg (by omega),if_neg (by omega),if_neg (by omega),if_neg (by omega)] at hok
  cases hok
theorem BZ (g:Gn) (hs:g.zz):Ab Tryz.prog 97 [gnA g] (fun r=>r=Oh (gnW g) (gnE g)):=by
 cases hw:gnW g
 ·have hV:=Fw g hs
  rw[hw] at hV
  clear hw
  refine acQ 106 Tryz.func97 rfl rfl fun _ _ _=> ?_
  (repeat'((conv=>whnf);first|refine Ac ?_|refine Aa hV Cq ?_|exact zE))
 ·show Ab Tryz.prog 97 [gnA g] (fun r=>r= .tup [Bb 0 5 (gnE g),iv 0])
  have hk:=BY hw
  obtain⟨k,o,t,b1,n,ak,av,pk,pv⟩:=g
  simp only at hk
  rcases hk with rfl|rfl|rfl|rfl|rfl|rfl|rfl|rfl|rfl
  ·exact MT hs hw
  ·exact MU hs hw
  ·exact MV hs hw
  ·exact MX hs hw
  ·exact MZ hs hw
  ·exact ND hs hw
  ·exact MW hs hw
  ·exact MY hs hw
  ·exact NB hs hw
abbrev gnF (g:Gn):AV:= .agg [iv g.k,.d (sD g.oid),.d (sD g.tx),.d (Af false g.by'),.d (Oy g.nm),iv g.ak,.d (sD g.av),iv g.pk,.d (sD g.pv)]
structure insOk (t:Tr):Prop where
 l:t.ks.length≤100000
 k:∀k∈t.ks,k.ok
 e:(Tr.encs t.ks).length≤800000000
theorem C5 {p:Prop} (h:p:=by first|rfl|(simp only[AV.gives,AV.ren,AV.give,D.un,D.uns,An,Ao,List.nil_append,List.append_nil,List.cons_append,Av,A9,Ca,Bn,Bd,B8,Ck,Bw,Bl,Bx,Bf,Tr.cellss_un];first|done|rfl)):p:=h
theorem gU (t:Tr) (ht:insOk t):Ab Tryz.prog 120 [trF t] (fun r=>r= .d (Af true (Tr.encs t.ks))):=by
 obtain⟨h1,h2,h3⟩:=ht
 obtain⟨c,n,k,b,ks⟩:=t
 rw[Bv]
 simp only[Tr.ks] at h1 h2 h3⊢
 refine acQ 21 Tryz.func120 rfl rfl fun _ _ _=> ?_
 (all_goals(conv=>whnf))
 refine A5 [.s 3 1 5] (fun i:Nat=>i≤ks.length) (fun i=>ks.length-i) (fun i=>⟨[(1,.ptr 1 0),(3,Bb 3 5 (Tr.encs (ks.take i))),(4,iv i)],[(1,[iv c,iv n,bv k,.d (Af false b),.d (.sl false ks.length 5 (Tr.cellss false ks))])],[(3,((Tr.encs (ks.take i)).length,1,5))]⟩) 0 (by omega) leQ ?_
 rintro i hi
 have ht:=Tr.encs_le ks i
 by_cases hik:i<ks.length
 ·have gi:decide ((i:Int)<ks.length)=true:=decide_eq_true (by omega)
  obtain⟨x,hg⟩:∃p,ks[i]?=some p:=⟨_,Am hik⟩
  have hs:=Tr.encs_snoc hg
  have ht2:=Tr.encs_le ks (i+1)
  rw[hs,Ap] at ht2
  have hB:=Pi x (h2 x (A8 hg)) (by omega)
  generalize x.enc=e at hB hs ht2
  generalize Tr.encs (ks.take i)=Q at hs ht ht2⊢
  obtain⟨c',n',k',b',ks'⟩:=x
  rw[Bv] at hB
  (repeat'((conv=>whnf);first|refine zP ?_|(refine Fc hg ?_)|refine Aa hB C5 ?_|(with_reducible refine NInt.i64 ?_)|(with_reducible refine NApp.bytes ?_)));(all_goals(conv=>whnf))
  refine⟨i+1,by omega,by omega,?_⟩
  rw[hs]
  exact leQ
 ·have gi:decide ((i:Int)<ks.length)=false:=decide_eq_false (by omega)
  obtain rfl:i=ks.length:=by omega
  rw[List.take_length]
  (repeat'((conv=>whnf);refine zN ?_));(all_goals(conv=>whnf))
  all_goals exact zE
structure Tr.gn (t:Tr):Prop where
 v:t.v.length≤30000
 k0:(t.kid 0).v.length≤30000
 i:insOk t
 i1:insOk (t.kid 1)
 nm:(t.kid 0).nm
 a:((t.kid 0).kid 0).v.length≤1000000
 p:((t.kid 1).kid 0).v.length≤1000000
theorem PP (t:Tr) (c n:Nat) (k:Bool):t.isB c n k=isT t c n k:=by
 obtain⟨c',n',k',b',ks'⟩:=t
 exact Bool.and_assoc _ _ _
theorem NF {c:Nat} {k:Bool} {b:List UInt8} {ks:List Tr} (ht:(Tr.mk c 0 k b ks).gn):Ab Tryz.prog 91 [trF (.mk c 0 k b ks)] (fun r=>r=gnF (Bg (.mk c 0 k b ks))):=by
 obtain⟨h1,h2,h3,h4,h5,h6,h7⟩:=ht
 have hK0:=Il (.mk c 0 k b ks) 0 (by omega)
 have hK1:=Il (.mk c 0 k b ks) 1 (by omega)
 have hR:=M4 _ h2
 have hI:=gU _ h4
 rw[show Bg (.mk c 0 k b ks)=⟨0,odT ((Tr.mk c 0 k b ks).kid 0).v,[],Tr.encs ((Tr.mk c 0 k b ks).kid 1).ks,[],0,[],0,[]⟩ from rfl]
 generalize odT _=o at hR⊢
 generalize Tr.encs _=e at hI⊢
 generalize (Tr.mk c 0 k b ks).kid 0=k0 at hK0 hR
 generalize (Tr.mk c 0 k b ks).kid 1=k1 at hK1 hI
 clear h1 h2 h3 h4 h5 h6 h7
 obtain⟨c0,n0,j0,b0,ks0⟩:=k0
 obtain⟨c1,n1,j1,b1,ks1⟩:=k1
 simp only[Bv] at hK0 hK1 hR hI⊢
 refine acQ 73 Tryz.func91 rfl rfl fun _ _ _=> ?_
 (repeat'((conv=>whnf);first|refine Ac ?_|refine Aa hK0 C5 ?_|refine Aa hR C5 ?_|refine Aa hK1 C5 ?_|refine Aa hI C5 ?_|exact zE))
theorem NG {c:Nat} {k:Bool} {b:List UInt8} {ks:List Tr} (ht:(Tr.mk c 1 k b ks).gn):Ab Tryz.prog 91 [trF (.mk c 1 k b ks)] (fun r=>r=gnF (Bg (.mk c 1 k b ks))):=by
 obtain⟨h1,h2,h3,h4,h5,h6,h7⟩:=ht
 have hD:=Io 22 b (by have:=h1;simp only[Tr.v] at this;omega)
 rw[show Bg (.mk c 1 k b ks)=⟨1,[],Cu 22 b,[],[],0,[],0,[]⟩ from rfl]
 clear h1 h2 h3 h4 h5 h6 h7
 rw[Bv]
 refine acQ 73 Tryz.func91 rfl rfl fun _ _ _=> ?_
 (repeat'((conv=>whnf);first|refine Ac ?_|refine Ae ?_|refine Aa hD C5 ?_|exact zE))
theorem NH {c:Nat} {k:Bool} {b:List UInt8} {ks:List Tr} (ht:(Tr.mk c 2 k b ks).gn):Ab Tryz.prog 91 [trF (.mk c 2 k b ks)] (fun r=>r=gnF (Bg (.mk c 2 k b ks))):=by
 obtain⟨h1,h2,h3,h4,h5,h6,h7⟩:=ht
 have hD:=Io 22 b (by have:=h1;simp only[Tr.v] at this;omega)
 rw[show Bg (.mk c 2 k b ks)=⟨2,[],Cu 22 b,[],[],0,[],0,[]⟩ from rfl]
 clear h1 h2 h3 h4 h5 h6 h7
 rw[Bv]
 refine acQ 73 Tryz.func91 rfl rfl fun _ _ _=> ?_
 (repeat'((conv=>whnf);first|refine Ac ?_|refine Ae ?_|refine Aa hD C5 ?_|exact zE))
theorem NI {c:Nat} {k:Bool} {b:List UInt8} {ks:List Tr} (ht:(Tr.mk c 6 k b ks).gn):Ab Tryz.prog 91 [trF (.mk c 6 k b ks)] (fun r=>r=gnF (Bg (.mk c 6 k b ks))):=by
 obtain⟨h1,h2,h3,h4,h5,h6,h7⟩:=ht
 have hD:=Io 22 b (by have:=h1;simp only[Tr.v] at this;omega)
 rw[show Bg (.mk c 6 k b ks)=⟨6,[],Cu 22 b,[],[],0,[],0,[]⟩ from rfl]
 clear h1 h2 h3 h4 h5 h6 h7
 rw[Bv]
 refine acQ 73 Tryz.func91 rfl rfl fun _ _ _=> ?_
 (repeat'((conv=>whnf);first|refine Ac ?_|refine Ae ?_|refine Aa hD C5 ?_|exact zE))
theorem NJ {c:Nat} {k:Bool} {b:List UInt8} {ks:List Tr} (ht:(Tr.mk c 3 k b ks).gn):Ab Tryz.prog 91 [trF (.mk c 3 k b ks)] (fun r=>r=gnF (Bg (.mk c 3 k b ks))):=by
 obtain⟨h1,h2,h3,h4,h5,h6,h7⟩:=ht
 have hI:=gU _ h3
 rw[show Bg (.mk c 3 k b ks)=⟨3,[],[],Tr.encs (Tr.mk c 3 k b ks).ks,[],0,[],0,[]⟩ from rfl]
 generalize Tr.encs _=e at hI⊢
 clear h1 h2 h3 h4 h5 h6 h7
 simp only[Bv] at hI⊢
 refine acQ 73 Tryz.func91 rfl rfl fun _ _ _=> ?_
 (repeat'((conv=>whnf);first|refine Ac ?_|refine Ae ?_|refine Aa hI C5 ?_|exact zE))
theorem NK {c:Nat} {k:Bool} {b:List UInt8} {ks:List Tr} (ht:(Tr.mk c 4 k b ks).gn):Ab Tryz.prog 91 [trF (.mk c 4 k b ks)] (fun r=>r=gnF (Bg (.mk c 4 k b ks))):=by
 obtain⟨h1,h2,h3,h4,h5,h6,h7⟩:=ht
 have hK0:=Il (.mk c 4 k b ks) 0 (by omega)
 have hN:=BQ _ h5
 rw[show Bg (.mk c 4 k b ks)=⟨4,[],[],[],Na ((Tr.mk c 4 k b ks).kid 0),0,[],0,[]⟩ from rfl]
 generalize Na _=nm at hN⊢
 generalize (Tr.mk c 4 k b ks).kid 0=k0 at hK0 hN
 clear h1 h2 h3 h4 h5 h6 h7
 obtain⟨c0,n0,j0,b0,ks0⟩:=k0
 simp only[Bv] at hK0 hN⊢
 refine acQ 73 Tryz.func91 rfl rfl fun _ _ _=> ?_
 (repeat'((conv=>whnf);first|refine Ac ?_|refine Ae ?_|refine Aa hK0 C5 ?_|refine Aa hN C5 ?_|exact zE))
theorem NL {c:Nat} {k:Bool} {b:List UInt8} {ks:List Tr} (ht:(Tr.mk c 7 k b ks).gn):Ab Tryz.prog 91 [trF (.mk c 7 k b ks)] (fun r=>r=gnF (Bg (.mk c 7 k b ks))):=by
 obtain⟨h1,h2,h3,h4,h5,h6,h7⟩:=ht
 rw[show Bg (.mk c 7 k b ks)=⟨7,[],[],b,[],0,[],0,[]⟩ from rfl]
 clear h1 h2 h3 h4 h5 h6 h7
 rw[Bv]
 refine acQ 73 Tryz.func91 rfl rfl fun _ _ _=> ?_
 (repeat'((conv=>whnf);first|refine Ac ?_|refine Ae ?_|exact zE))
theorem NM {c:Nat} {k:Bool} {b:List UInt8} {ks:List Tr} (ht:(Tr.mk c 8 k b ks).gn):Ab Tryz.prog 91 [trF (.mk c 8 k b ks)] (fun r=>r=gnF (Bg (.mk c 8 k b ks))):=by
 obtain⟨h1,h2,h3,h4,h5,h6,h7⟩:=ht
 have hR:=M4 _ h1
 rw[show Bg (.mk c 8 k b ks)=⟨8,odT (Tr.mk c 8 k b ks).v,[],[],[],0,[],0,[]⟩ from rfl]
 generalize odT _=o at hR⊢
 clear h1 h2 h3 h4 h5 h6 h7
 simp only[Bv] at hR⊢
 refine acQ 73 Tryz.func91 rfl rfl fun _ _ _=> ?_
 (repeat'((conv=>whnf);first|refine Ac ?_|refine Ae ?_|refine Aa hR C5 ?_|exact zE))
theorem NN {c:Nat} {k:Bool} {b:List UInt8} {ks:List Tr} (ht:(Tr.mk c 5 k b ks).gn):Ab Tryz.prog 91 [trF (.mk c 5 k b ks)] (fun r=>r=gnF (Bg (.mk c 5 k b ks))):=by
 obtain⟨h1,h2,h3,h4,h5,h6,h7⟩:=ht
 have hK0:=Il (.mk c 5 k b ks) 0 (by omega)
 have hK1:=Il (.mk c 5 k b ks) 1 (by omega)
 have hI:=IE ((Tr.mk c 5 k b ks).kid 0) 2 0 true
 rw[PP] at hI
 rw[show Bg (.mk c 5 k b ks)=if isT ((Tr.mk c 5 k b ks).kid 0) 2 0 true then⟨5,[],[],[],[],Oj (((Tr.mk c 5 k b ks).kid 0).kid 0),Ok (((Tr.mk c 5 k b ks).kid 0).kid 0),Oj (((Tr.mk c 5 k b ks).kid 1).kid 0),Ok (((Tr.mk c 5 k b ks).kid 1).kid 0)⟩ else⟨5,[],[],[],[],0,[],Oj (((Tr.mk c 5 k b ks).kid 0).kid 0),Ok (((Tr.mk c 5 k b ks).kid 0).kid 0)⟩ from rfl]
 generalize (Tr.mk c 5 k b ks).kid 0=k0 at hK0 hI h6⊢
 generalize (Tr.mk c 5 k b ks).kid 1=k1 at hK1 h7⊢
 have hJ0:=Il k0 0 (by omega)
 have hJ1:=Il k1 0 (by omega)
 have hS0:=gR _ h6
 have hS1:=gR _ h7
 generalize Oj (k0.kid 0)=a1 at hS0⊢
 generalize Ok (k0.kid 0)=a2 at hS0⊢
 generalize Oj (k1.kid 0)=p1 at hS1⊢
 generalize Ok (k1.kid 0)=p2 at hS1⊢
 generalize k0.kid 0=j0 at hJ0 hS0
 generalize k1.kid 0=j1 at hJ1 hS1
 clear h1 h2 h3 h4 h5 h6 h7
 cases hq:isT k0 2 0 true
 ·rw[hq] at hI
  rw[if_neg (by simp)]
  clear hq
  obtain⟨c0,n0,l0,b0,ks0⟩:=k0
  obtain⟨d0,m0,i0,x0,kt0⟩:=j0
  simp only[Bv] at hK0 hI hJ0 hS0⊢
  refine acQ 73 Tryz.func91 rfl rfl fun _ _ _=> ?_
  (repeat'((conv=>whnf);first|refine Ac ?_|refine Ae ?_|refine Aa hK0 C5 ?_|refine Aa hI C5 ?_|refine Aa hJ0 C5 ?_|refine Aa hS0 C5 ?_|exact zE))
 ·rw[hq] at hI
  rw[if_pos rfl]
  clear hq
  obtain⟨c0,n0,l0,b0,ks0⟩:=k0
  obtain⟨d0,m0,i0,x0,kt0⟩:=j0
  obtain⟨c1,n1,l1,b1,ks1⟩:=k1
  obtain⟨d1,m1,i1,x1,kt1⟩:=j1
  simp only[Bv] at hK0 hK1 hI hJ0 hS0 hJ1 hS1⊢
  refine acQ 73 Tryz.func91 rfl rfl fun _ _ _=> ?_
  (repeat'((conv=>whnf);first|refine Ac ?_|refine Ae ?_|refine Aa hK0 C5 ?_|refine Aa hI C5 ?_|refine Aa hJ0 C5 ?_|refine Aa hS0 C5 ?_|refine Aa hK1 C5 ?_|refine Aa hJ1 C5 ?_|refine Aa hS1 C5 ?_|exact zE))
theorem CA (t:Tr) (ht:t.gn):Ab Tryz.prog 91 [trF t] (fun r=>r=gnF (Bg t)):=by
 obtain⟨c,n,k,b,ks⟩:=t
 by_cases hn:n≤8
 ·rcases(by omega:n=0∨n=1∨n=2∨n=3∨n=4∨n=5∨n=6∨n=7∨n=8) with rfl|rfl|rfl|rfl|rfl|rfl|rfl|rfl|rfl
  ·exact NF ht
  ·exact NG ht
  ·exact NH ht
  ·exact NJ ht
  ·exact NK ht
  ·exact NN ht
  ·exact NI ht
  ·exact NL ht
  ·exact NM ht
 ·have e:Bg (.mk c n k b ks)=⟨n,[],[],[],[],0,[],0,[]⟩:=by
   obtain⟨m,rfl⟩:∃m,n=m+9:=⟨n-9,by omega⟩
   rfl
  rw[e,Bv]
  have g0:((n:Int)==0)=false:=beq_eq_false_iff_ne.2 (by omega)
  have g1:((n:Int)==1)=false:=beq_eq_false_iff_ne.2 (by omega)
  have g2:((n:Int)==2)=false:=beq_eq_false_iff_ne.2 (by omega)
  have g3:((n:Int)==3)=false:=beq_eq_false_iff_ne.2 (by omega)
  have g4:((n:Int)==4)=false:=beq_eq_false_iff_ne.2 (by omega)
  have g5:((n:Int)==5)=false:=beq_eq_false_iff_ne.2 (by omega)
  have g6:((n:Int)==6)=false:=beq_eq_false_iff_ne.2 (by omega)
  have g7:((n:Int)==7)=false:=beq_eq_false_iff_ne.2 (by omega)
  have g8:((n:Int)==8)=false:=beq_eq_false_iff_ne.2 (by omega)
  refine acQ 73 Tryz.func91 rfl rfl fun _ _ _=> ?_
  (repeat'((conv=>whnf);refine zN ?_));(all_goals(conv=>whnf))
  all_goals exact zE
end Go.Proofs.YtokmjjkbginodaaGreatDoor
