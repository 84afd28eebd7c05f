/- MS: the texts R13V R13M R13R, one behind the other. No condition but what each lemma says. -/
import Derived.Test.YtgamacmidohpfaaGreatDoorMR
import Derived.Test.YtgamacmidohpfaaGreatDoorMP
set_option maxRecDepth 100000
set_option maxHeartbeats 16000000
namespace Go.Proofs.YtgamacmidohpfaaGreatDoor
open Go.RowKit
def stB (a b c d e:Bool) (g:Gn):Gn:=⟨0,if a then [] else g.oid,if b then [] else g.tx,if c then [] else g.by',if d then [] else g.nm,if e then 0 else g.ak,if e then [] else g.av,if e then 0 else g.pk,if e then [] else g.pv⟩
theorem GQ {α:Type} [BEq α] (l:List α):((l.length:Int)==0)=decide (l=[]):=by
 cases l with
 |nil=>rfl
 |cons a r=>rw[decide_eq_false (by simp)];exact beq_eq_false_iff_ne.2 (by simp;omega)
theorem J5 (a b c d e:Bool) (g:Gn):decide (stB a b c d e g=gz)=alB a b c d e g:=by
 obtain⟨k,o,t,b1,n,ak,av,pk,pv⟩:=g
 unfold stB gz alB zT
 simp only[GQ]
 rw[Bool.eq_iff_iff]
 cases a<;>cases b<;>cases c<;>cases d<;>cases e<;>simp[and_assoc]
def okG (g:Gn):Bool:=
 if g.k=0 then Dy g.oid&&Dl g.by' else if g.k=1∨g.k=2∨g.k=6 then Ah 22 g.tx
 else if g.k=3 then Dl (Ae 2 3 true g.by') else if g.k=4 then nmV g.nm
 else if g.k=5 then(zT g.ak g.av||fiB g.ak g.av)&&fiB g.pk g.pv
 else if g.k=7 then ip g.by'.length else if g.k=8 then Dy g.oid else false
theorem G6 {k:Int} {l:List UInt8} (h:fiB k l=true):Ah k l=true:=by unfold fiB at h;simp at h;exact h.1
theorem Hu (g:Gn):gnW g=(okG g&&Bw g):=by
 rw[Bool.eq_iff_iff]
 unfold gnW okG Q1 Dh Gk
 simp only[Bool.and_eq_true]
 by_cases h0:g.k=0
 ·rw[if_pos h0,if_pos h0,if_pos h0,h0];cases Dy g.oid<;>simp;exact and_comm
 rw[if_neg h0,if_neg h0,if_neg h0]
 by_cases h1:g.k=1∨g.k=2∨g.k=6
 ·rw[if_pos h1,if_pos h1,if_neg (by omega),if_neg (by omega),show(g.k==5)=false from beq_eq_false_iff_ne.2 (by omega)];cases Ah 22 g.tx<;>simp
 rw[if_neg h1,if_neg h1]
 by_cases h3:g.k=3
 ·rw[if_pos h3,if_pos h3,if_pos (.inl h3),h3];simp;exact and_comm
 rw[if_neg h3,if_neg h3]
 by_cases h4:g.k=4
 ·rw[if_pos h4,if_neg (by omega),if_neg (by omega),if_pos h4,h4];cases nmV g.nm<;>simp
 rw[if_neg h4]
 by_cases h5:g.k=5
 ·rw[if_pos h5,if_neg (by omega),if_neg (by omega),if_neg h4,if_pos h5,h5]
  unfold Li
  constructor
  ·rintro⟨a,h0,h1,h⟩;exact⟨by simpa using h,a⟩
  ·rintro⟨h,a⟩
   rw[Bool.and_eq_true] at h
   obtain⟨h1,h2⟩:=h
   refine⟨a,rfl,?_,by simp[h1,h2]⟩
   rw[if_pos]
   ·rfl
   ·rw[Bool.and_eq_true]
    refine⟨?_,G6 h2⟩
    rcases Bool.or_eq_true_iff.1 h1 with h|h
    ·rw[h];rfl
    ·rw[G6 h,Bool.or_true]
 rw[if_neg h5]
 by_cases h7:g.k=7
 ·rw[if_pos h7,if_pos h7,if_pos (.inr h7),h7];simp;exact and_comm
 rw[if_neg h7,if_neg h7]
 rw[if_neg (by omega),if_neg h4,if_neg h5,show(g.k==5)=false from beq_eq_false_iff_ne.2 h5]
 by_cases h8:g.k=8
 ·rw[if_pos h8,if_pos h8];cases Dy g.oid<;>simp
 ·rw[if_neg h8,if_neg h8];simp
theorem J6 {n:List (List Att)} (h:nmZ n):zU n:=⟨by have:=h.l;omega,fun r hr=>⟨by have:=(h.r r hr).l;omega,fun a ha=>⟨by have:=((h.r r hr).a a ha).v;omega⟩⟩⟩
structure Gn.zz (g:Gn):Prop where
 o:g.oid.length≤3000000
 t:g.tx.length≤3000000
 b:g.by'.length≤3000000
 n:nmZ g.nm
 a:g.av.length≤3000000
 p:g.pv.length≤3000000
theorem Gn.sm.z {g:Gn} (h:g.sm):g.zz:=⟨h.o,h.t,h.b,h.n,h.a,h.p⟩
theorem Gn.zz.s {g:Gn} (h:g.zz):g.sm:=⟨h.o,h.t,h.b,h.n,h.a,h.p⟩
theorem Gn.zz.q {g:Gn} (h:g.zz):g.eqs:=⟨by have:=h.b;omega,J6 h.n⟩
theorem J7:gz.eqs:=⟨by simp[gz],by simp[gz,zU]⟩
theorem Ic {p:Prop} (h:p:=by first|rfl|(simp only[AV.gives,AV.ren,AV.give,D.un,D.uns,Ag,Af,List.nil_append,List.append_nil,List.cons_append,Ai,Al,As,Aq,An,Ar,Ax,Ck,Bq,Ce,Bg];first|done|rfl)):p:=h
theorem Eu {p:Prop} (h:p:=by((try simp only[AV.gives,AV.ren,AV.give,D.un,D.uns,Ag,Af,List.nil_append,List.append_nil,List.cons_append,Ai,Al,As,Aq,An,Ar,Ax,Ck,Bq,Ce,Bg]);(repeat'(first|exact trivial|exact Ap _|refine And.intro ?_ ?_|exact rfl|exact Or.inr rfl|exact Or.inl rfl|exact Or.inl (by rfl)|omega|refine Or.inr ?_));first|done|fail)):p:=h
theorem DP {o t b1:List UInt8} {n:List (List Att)} {ak:Int} {av:List UInt8} {pk:Int} {pv:List UInt8} (hs:(⟨0,o,t,b1,n,ak,av,pk,pv⟩:Gn).zz):Aa Tryz.prog 45 [gnA ⟨0,o,t,b1,n,ak,av,pk,pv⟩] (fun r=>r=bv (gnW ⟨0,o,t,b1,n,ak,av,pk,pv⟩)):=by
 have hG:=C3 ⟨0,[],t,[],n,ak,av,pk,pv⟩ gz ⟨by simp,J6 hs.n⟩ J7
 obtain⟨s1,s2,s3,s4,s5,s6⟩:=hs
 simp only at s1 s2 s3 s4 s5 s6
 rw[show decide ((⟨0,[],t,[],n,ak,av,pk,pv⟩:Gn)=gz)=Bw ⟨0,o,t,b1,n,ak,av,pk,pv⟩ from J5 true false true false false ⟨0,o,t,b1,n,ak,av,pk,pv⟩] at hG
 rw[Hu,show okG ⟨0,o,t,b1,n,ak,av,pk,pv⟩=(Dy o&&Dl b1) from rfl]
 generalize Bw _=A at hG⊢
 have hV:=Ip o (by omega)
 have hO:=Ng b1 (by omega)
 cases h1:Dy o
 ·rw[h1] at hV
  refine acQ 100 Tryz.func45 rfl rfl fun _ _ _=> ?_
  (repeat'((conv=>whnf);first|refine NBr.yes ?_|refine NBr.no ?_|refine NCall.eq hV rfl ?_));(all_goals(conv=>whnf))
  all_goals exact NEnd.eq leQ
 rw[h1] at hV
 cases h2:Dl b1
 ·rw[h2] at hO
  refine acQ 100 Tryz.func45 rfl rfl fun _ _ _=> ?_
  (repeat'((conv=>whnf);first|refine NBr.yes ?_|refine NBr.no ?_|refine NCall.eq hV rfl ?_|refine NCall.eq hO Ic ?_));(all_goals(conv=>whnf))
  all_goals exact NEnd.eq leQ
 ·rw[h2] at hO
  refine acQ 100 Tryz.func45 rfl rfl fun _ _ _=> ?_
  (repeat'((conv=>whnf);first|refine NBr.yes ?_|refine NCall.eq hV rfl ?_|refine NCall.eq hO Ic ?_|refine NCall.le hG Eu ?_));(all_goals(conv=>whnf))
  all_goals exact NEnd.eq leQ
theorem DQ {o t b1:List UInt8} {n:List (List Att)} {ak:Int} {av:List UInt8} {pk:Int} {pv:List UInt8} (hs:(⟨1,o,t,b1,n,ak,av,pk,pv⟩:Gn).zz):Aa Tryz.prog 45 [gnA ⟨1,o,t,b1,n,ak,av,pk,pv⟩] (fun r=>r=bv (gnW ⟨1,o,t,b1,n,ak,av,pk,pv⟩)):=by
 have hG:=C3 ⟨0,o,[],b1,n,ak,av,pk,pv⟩ gz ⟨by have:=hs.b;simp only at this⊢;omega,J6 hs.n⟩ J7
 obtain⟨s1,s2,s3,s4,s5,s6⟩:=hs
 simp only at s1 s2 s3 s4 s5 s6
 rw[show decide ((⟨0,o,[],b1,n,ak,av,pk,pv⟩:Gn)=gz)=Bw ⟨1,o,t,b1,n,ak,av,pk,pv⟩ from J5 false true false false false ⟨1,o,t,b1,n,ak,av,pk,pv⟩] at hG
 rw[Hu,show okG ⟨1,o,t,b1,n,ak,av,pk,pv⟩=(Ah 22 t) from rfl]
 generalize Bw _=A at hG⊢
 have hV:=Gv 22 t (by omega)
 cases h1:Ah 22 t
 ·rw[h1] at hV
  refine acQ 100 Tryz.func45 rfl rfl fun _ _ _=> ?_
  (repeat'((conv=>whnf);first|refine NBr.yes ?_|refine NBr.no ?_|refine NCall.eq hV rfl ?_));(all_goals(conv=>whnf))
  all_goals exact NEnd.eq leQ
 ·rw[h1] at hV
  refine acQ 100 Tryz.func45 rfl rfl fun _ _ _=> ?_
  (repeat'((conv=>whnf);first|refine NBr.yes ?_|refine NBr.no ?_|refine NCall.eq hV rfl ?_|refine NCall.le hG Eu ?_));(all_goals(conv=>whnf))
  all_goals exact NEnd.eq leQ
theorem DR {o t b1:List UInt8} {n:List (List Att)} {ak:Int} {av:List UInt8} {pk:Int} {pv:List UInt8} (hs:(⟨2,o,t,b1,n,ak,av,pk,pv⟩:Gn).zz):Aa Tryz.prog 45 [gnA ⟨2,o,t,b1,n,ak,av,pk,pv⟩] (fun r=>r=bv (gnW ⟨2,o,t,b1,n,ak,av,pk,pv⟩)):=by
 have hG:=C3 ⟨0,o,[],b1,n,ak,av,pk,pv⟩ gz ⟨by have:=hs.b;simp only at this⊢;omega,J6 hs.n⟩ J7
 obtain⟨s1,s2,s3,s4,s5,s6⟩:=hs
 simp only at s1 s2 s3 s4 s5 s6
 rw[show decide ((⟨0,o,[],b1,n,ak,av,pk,pv⟩:Gn)=gz)=Bw ⟨2,o,t,b1,n,ak,av,pk,pv⟩ from J5 false true false false false ⟨2,o,t,b1,n,ak,av,pk,pv⟩] at hG
 rw[Hu,show okG ⟨2,o,t,b1,n,ak,av,pk,pv⟩=(Ah 22 t) from rfl]
 generalize Bw _=A at hG⊢
 have hV:=Gv 22 t (by omega)
 cases h1:Ah 22 t
 ·rw[h1] at hV
  refine acQ 100 Tryz.func45 rfl rfl fun _ _ _=> ?_
  (repeat'((conv=>whnf);first|refine NBr.yes ?_|refine NBr.no ?_|refine NCall.eq hV rfl ?_));(all_goals(conv=>whnf))
  all_goals exact NEnd.eq leQ
 ·rw[h1] at hV
  refine acQ 100 Tryz.func45 rfl rfl fun _ _ _=> ?_
  (repeat'((conv=>whnf);first|refine NBr.yes ?_|refine NBr.no ?_|refine NCall.eq hV rfl ?_|refine NCall.le hG Eu ?_));(all_goals(conv=>whnf))
  all_goals exact NEnd.eq leQ
theorem DS {o t b1:List UInt8} {n:List (List Att)} {ak:Int} {av:List UInt8} {pk:Int} {pv:List UInt8} (hs:(⟨6,o,t,b1,n,ak,av,pk,pv⟩:Gn).zz):Aa Tryz.prog 45 [gnA ⟨6,o,t,b1,n,ak,av,pk,pv⟩] (fun r=>r=bv (gnW ⟨6,o,t,b1,n,ak,av,pk,pv⟩)):=by
 have hG:=C3 ⟨0,o,[],b1,n,ak,av,pk,pv⟩ gz ⟨by have:=hs.b;simp only at this⊢;omega,J6 hs.n⟩ J7
 obtain⟨s1,s2,s3,s4,s5,s6⟩:=hs
 simp only at s1 s2 s3 s4 s5 s6
 rw[show decide ((⟨0,o,[],b1,n,ak,av,pk,pv⟩:Gn)=gz)=Bw ⟨6,o,t,b1,n,ak,av,pk,pv⟩ from J5 false true false false false ⟨6,o,t,b1,n,ak,av,pk,pv⟩] at hG
 rw[Hu,show okG ⟨6,o,t,b1,n,ak,av,pk,pv⟩=(Ah 22 t) from rfl]
 generalize Bw _=A at hG⊢
 have hV:=Gv 22 t (by omega)
 cases h1:Ah 22 t
 ·rw[h1] at hV
  refine acQ 100 Tryz.func45 rfl rfl fun _ _ _=> ?_
  (repeat'((conv=>whnf);first|refine NBr.yes ?_|refine NBr.no ?_|refine NCall.eq hV rfl ?_));(all_goals(conv=>whnf))
  all_goals exact NEnd.eq leQ
 ·rw[h1] at hV
  refine acQ 100 Tryz.func45 rfl rfl fun _ _ _=> ?_
  (repeat'((conv=>whnf);first|refine NBr.yes ?_|refine NBr.no ?_|refine NCall.eq hV rfl ?_|refine NCall.le hG Eu ?_));(all_goals(conv=>whnf))
  all_goals exact NEnd.eq leQ
theorem DT {o t b1:List UInt8} {n:List (List Att)} {ak:Int} {av:List UInt8} {pk:Int} {pv:List UInt8} (hs:(⟨3,o,t,b1,n,ak,av,pk,pv⟩:Gn).zz):Aa Tryz.prog 45 [gnA ⟨3,o,t,b1,n,ak,av,pk,pv⟩] (fun r=>r=bv (gnW ⟨3,o,t,b1,n,ak,av,pk,pv⟩)):=by
 have hG:=C3 ⟨0,o,t,[],n,ak,av,pk,pv⟩ gz ⟨by simp,J6 hs.n⟩ J7
 obtain⟨s1,s2,s3,s4,s5,s6⟩:=hs
 simp only at s1 s2 s3 s4 s5 s6
 rw[show decide ((⟨0,o,t,[],n,ak,av,pk,pv⟩:Gn)=gz)=Bw ⟨3,o,t,b1,n,ak,av,pk,pv⟩ from J5 false false true false false ⟨3,o,t,b1,n,ak,av,pk,pv⟩] at hG
 rw[Hu,show okG ⟨3,o,t,b1,n,ak,av,pk,pv⟩=(Dl (Ae 2 3 true b1)) from rfl]
 generalize Bw _=A at hG⊢
 have hP:Aa Tryz.prog 32 [cv 163,.d (Ac false b1)] (fun r=>r=Au 0 5 (Ae 2 3 true b1)):=Cr 163 b1 (by omega)
 have hl:=Ak 2 3 true b1 (by omega)
 have hV:=Ng (Ae 2 3 true b1) (by omega)
 cases h1:Dl (Ae 2 3 true b1)
 ·rw[h1] at hV
  refine acQ 100 Tryz.func45 rfl rfl fun _ _ _=> ?_
  (repeat'((conv=>whnf);first|refine NBr.yes ?_|refine NBr.no ?_|refine NCall.eq hP Ic ?_|refine NCall.eq hV Ic ?_));(all_goals(conv=>whnf))
  all_goals exact NEnd.eq leQ
 ·rw[h1] at hV
  refine acQ 100 Tryz.func45 rfl rfl fun _ _ _=> ?_
  (repeat'((conv=>whnf);first|refine NBr.yes ?_|refine NBr.no ?_|refine NCall.eq hP Ic ?_|refine NCall.eq hV Ic ?_|refine NCall.le hG Eu ?_));(all_goals(conv=>whnf))
  all_goals exact NEnd.eq leQ
theorem DU {o t b1:List UInt8} {n:List (List Att)} {ak:Int} {av:List UInt8} {pk:Int} {pv:List UInt8} (hs:(⟨4,o,t,b1,n,ak,av,pk,pv⟩:Gn).zz):Aa Tryz.prog 45 [gnA ⟨4,o,t,b1,n,ak,av,pk,pv⟩] (fun r=>r=bv (gnW ⟨4,o,t,b1,n,ak,av,pk,pv⟩)):=by
 have hG:=C3 ⟨0,o,t,b1,[],ak,av,pk,pv⟩ gz ⟨by have:=hs.b;simp only at this⊢;omega,by simp[zU]⟩ J7
 obtain⟨s1,s2,s3,s4,s5,s6⟩:=hs
 simp only at s1 s2 s3 s4 s5 s6
 rw[show decide ((⟨0,o,t,b1,[],ak,av,pk,pv⟩:Gn)=gz)=Bw ⟨4,o,t,b1,n,ak,av,pk,pv⟩ from J5 false false false true false ⟨4,o,t,b1,n,ak,av,pk,pv⟩] at hG
 rw[Hu,show okG ⟨4,o,t,b1,n,ak,av,pk,pv⟩=(nmV n) from rfl]
 generalize Bw _=A at hG⊢
 have hV:=cC n s4
 cases h1:nmV n
 ·rw[h1] at hV
  refine acQ 100 Tryz.func45 rfl rfl fun _ _ _=> ?_
  (repeat'((conv=>whnf);first|refine NBr.yes ?_|refine NBr.no ?_|refine NCall.eq hV Ic ?_));(all_goals(conv=>whnf))
  all_goals exact NEnd.eq leQ
 ·rw[h1] at hV
  refine acQ 100 Tryz.func45 rfl rfl fun _ _ _=> ?_
  (repeat'((conv=>whnf);first|refine NBr.yes ?_|refine NBr.no ?_|refine NCall.eq hV Ic ?_|refine NCall.le hG Eu ?_));(all_goals(conv=>whnf))
  all_goals exact NEnd.eq leQ
theorem DV {o t b1:List UInt8} {n:List (List Att)} {ak:Int} {av:List UInt8} {pk:Int} {pv:List UInt8} (hs:(⟨8,o,t,b1,n,ak,av,pk,pv⟩:Gn).zz):Aa Tryz.prog 45 [gnA ⟨8,o,t,b1,n,ak,av,pk,pv⟩] (fun r=>r=bv (gnW ⟨8,o,t,b1,n,ak,av,pk,pv⟩)):=by
 have hG:=C3 ⟨0,[],t,b1,n,ak,av,pk,pv⟩ gz ⟨by have:=hs.b;simp only at this⊢;omega,J6 hs.n⟩ J7
 obtain⟨s1,s2,s3,s4,s5,s6⟩:=hs
 simp only at s1 s2 s3 s4 s5 s6
 rw[show decide ((⟨0,[],t,b1,n,ak,av,pk,pv⟩:Gn)=gz)=Bw ⟨8,o,t,b1,n,ak,av,pk,pv⟩ from J5 true false false false false ⟨8,o,t,b1,n,ak,av,pk,pv⟩] at hG
 rw[Hu,show okG ⟨8,o,t,b1,n,ak,av,pk,pv⟩=(Dy o) from rfl]
 generalize Bw _=A at hG⊢
 have hV:=Ip o (by omega)
 cases h1:Dy o
 ·rw[h1] at hV
  refine acQ 100 Tryz.func45 rfl rfl fun _ _ _=> ?_
  (repeat'((conv=>whnf);first|refine NBr.yes ?_|refine NBr.no ?_|refine NCall.eq hV rfl ?_));(all_goals(conv=>whnf))
  all_goals exact NEnd.eq leQ
 ·rw[h1] at hV
  refine acQ 100 Tryz.func45 rfl rfl fun _ _ _=> ?_
  (repeat'((conv=>whnf);first|refine NBr.yes ?_|refine NBr.no ?_|refine NCall.eq hV rfl ?_|refine NCall.le hG Eu ?_));(all_goals(conv=>whnf))
  all_goals exact NEnd.eq leQ
theorem DW {o t b1:List UInt8} {n:List (List Att)} {ak:Int} {av:List UInt8} {pk:Int} {pv:List UInt8} (hs:(⟨5,o,t,b1,n,ak,av,pk,pv⟩:Gn).zz):Aa Tryz.prog 45 [gnA ⟨5,o,t,b1,n,ak,av,pk,pv⟩] (fun r=>r=bv (gnW ⟨5,o,t,b1,n,ak,av,pk,pv⟩)):=by
 have hG:=C3 ⟨0,o,t,b1,n,0,[],0,[]⟩ gz ⟨by have:=hs.b;simp only at this⊢;omega,J6 hs.n⟩ J7
 obtain⟨s1,s2,s3,s4,s5,s6⟩:=hs
 simp only at s1 s2 s3 s4 s5 s6
 rw[show decide ((⟨0,o,t,b1,n,0,[],0,[]⟩:Gn)=gz)=Bw ⟨5,o,t,b1,n,ak,av,pk,pv⟩ from J5 false false false false true ⟨5,o,t,b1,n,ak,av,pk,pv⟩] at hG
 rw[Hu,show okG ⟨5,o,t,b1,n,ak,av,pk,pv⟩=((zT ak av||fiB ak av)&&fiB pk pv) from rfl]
 generalize Bw _=A at hG⊢
 have hV:=Wh ak av (by omega)
 have hQ:=Wh pk pv (by omega)
 have hz:zT ak av=(ak==0&&av==[]):=rfl
 cases h1:zT ak av
 ·rw[h1] at hz
  have hz:=hz.symm
  cases h2:fiB ak av
  ·rw[h2] at hV
   refine acQ 100 Tryz.func45 rfl rfl fun _ _ _=> ?_
   (repeat'((conv=>whnf);first|refine NBr.neg asQ ?_|refine NBr.yes ?_|refine NBr.no ?_|refine NStep.go (C4 rfl rfl (ltN rfl) rfl rfl) ?_|refine NCall.eq hV rfl ?_));(all_goals(conv=>whnf))
   all_goals exact NEnd.eq leQ
  ·rw[h2] at hV
   cases h3:fiB pk pv
   ·rw[h3] at hQ
    refine acQ 100 Tryz.func45 rfl rfl fun _ _ _=> ?_
    (repeat'((conv=>whnf);first|refine NBr.neg asQ ?_|refine NBr.yes ?_|refine NBr.no ?_|refine NStep.go (C4 rfl rfl (ltN rfl) rfl rfl) ?_|refine NCall.eq hV rfl ?_|refine NCall.eq hQ rfl ?_));(all_goals(conv=>whnf))
    all_goals exact NEnd.eq leQ
   ·rw[h3] at hQ
    refine acQ 100 Tryz.func45 rfl rfl fun _ _ _=> ?_
    (repeat'((conv=>whnf);first|refine NBr.neg asQ ?_|refine NBr.yes ?_|refine NBr.no ?_|refine NStep.go (C4 rfl rfl (ltN rfl) rfl rfl) ?_|refine NCall.eq hV rfl ?_|refine NCall.eq hQ rfl ?_|refine NCall.le hG Eu ?_));(all_goals(conv=>whnf))
    all_goals exact NEnd.eq leQ
 ·rw[h1] at hz
  have hz:=hz.symm
  cases h3:fiB pk pv
  ·rw[h3] at hQ
   refine acQ 100 Tryz.func45 rfl rfl fun _ _ _=> ?_
   (repeat'((conv=>whnf);first|refine NBr.pos asQ ?_|refine NBr.yes ?_|refine NBr.no ?_|refine NStep.go (C4 rfl rfl (ltN rfl) rfl rfl) ?_|refine NCall.eq hQ rfl ?_));(all_goals(conv=>whnf))
   all_goals exact NEnd.eq leQ
  ·rw[h3] at hQ
   refine acQ 100 Tryz.func45 rfl rfl fun _ _ _=> ?_
   (repeat'((conv=>whnf);first|refine NBr.pos asQ ?_|refine NBr.yes ?_|refine NBr.no ?_|refine NStep.go (C4 rfl rfl (ltN rfl) rfl rfl) ?_|refine NCall.eq hQ rfl ?_|refine NCall.le hG Eu ?_));(all_goals(conv=>whnf))
   all_goals exact NEnd.eq leQ
theorem DX {o t b1:List UInt8} {n:List (List Att)} {ak:Int} {av:List UInt8} {pk:Int} {pv:List UInt8} (hs:(⟨7,o,t,b1,n,ak,av,pk,pv⟩:Gn).zz):Aa Tryz.prog 45 [gnA ⟨7,o,t,b1,n,ak,av,pk,pv⟩] (fun r=>r=bv (gnW ⟨7,o,t,b1,n,ak,av,pk,pv⟩)):=by
 have hG:=C3 ⟨0,o,t,[],n,ak,av,pk,pv⟩ gz ⟨by simp,J6 hs.n⟩ J7
 obtain⟨s1,s2,s3,s4,s5,s6⟩:=hs
 simp only at s1 s2 s3 s4 s5 s6
 rw[show decide ((⟨0,o,t,[],n,ak,av,pk,pv⟩:Gn)=gz)=Bw ⟨7,o,t,b1,n,ak,av,pk,pv⟩ from J5 false false true false false ⟨7,o,t,b1,n,ak,av,pk,pv⟩] at hG
 rw[Hu,show okG ⟨7,o,t,b1,n,ak,av,pk,pv⟩=(ip b1.length) from rfl]
 generalize Bw _=A at hG⊢
 have e:ip b1.length=(((b1.length:Int)==4)||(((b1.length:Int)==8)||(((b1.length:Int)==16)||((b1.length:Int)==32)))):=by
  unfold ip;rw[Bool.eq_iff_iff];simp;omega
 rw[e]
 cases h1:((b1.length:Int)==4)
 ·cases h2:((b1.length:Int)==8)
  ·cases h3:((b1.length:Int)==16)
   ·cases h4:((b1.length:Int)==32)
    ·refine acQ 100 Tryz.func45 rfl rfl fun _ _ _=> ?_
     (repeat'((conv=>whnf);first|refine NBr.neg asQ ?_|refine NBr.yes ?_|refine NBr.no ?_));(all_goals(conv=>whnf))
     all_goals exact NEnd.eq leQ
    ·refine acQ 100 Tryz.func45 rfl rfl fun _ _ _=> ?_
     (repeat'((conv=>whnf);first|refine NBr.pos asQ ?_|refine NBr.neg asQ ?_|refine NBr.yes ?_|refine NBr.no ?_|refine NCall.le hG Eu ?_));(all_goals(conv=>whnf))
     all_goals exact NEnd.eq leQ
   ·refine acQ 100 Tryz.func45 rfl rfl fun _ _ _=> ?_
    (repeat'((conv=>whnf);first|refine NBr.pos asQ ?_|refine NBr.neg asQ ?_|refine NBr.yes ?_|refine NBr.no ?_|refine NCall.le hG Eu ?_));(all_goals(conv=>whnf))
    all_goals exact NEnd.eq leQ
  ·refine acQ 100 Tryz.func45 rfl rfl fun _ _ _=> ?_
   (repeat'((conv=>whnf);first|refine NBr.pos asQ ?_|refine NBr.neg asQ ?_|refine NBr.yes ?_|refine NBr.no ?_|refine NCall.le hG Eu ?_));(all_goals(conv=>whnf))
   all_goals exact NEnd.eq leQ
 ·refine acQ 100 Tryz.func45 rfl rfl fun _ _ _=> ?_
  (repeat'((conv=>whnf);first|refine NBr.pos asQ ?_|refine NBr.yes ?_|refine NBr.no ?_|refine NCall.le hG Eu ?_));(all_goals(conv=>whnf))
  all_goals exact NEnd.eq leQ
theorem En (g:Gn) (hs:g.zz):Aa Tryz.prog 45 [gnA g] (fun r=>r=bv (gnW g)):=by
 by_cases hk:0≤g.k∧g.k≤8
 ·obtain⟨k,o,t,b1,n,ak,av,pk,pv⟩:=g
  simp only at hk
  rcases(by omega:k=0∨k=1∨k=2∨k=3∨k=4∨k=5∨k=6∨k=7∨k=8) with rfl|rfl|rfl|rfl|rfl|rfl|rfl|rfl|rfl
  ·exact DP hs
  ·exact DQ hs
  ·exact DR hs
  ·exact DT hs
  ·exact DU hs
  ·exact DW hs
  ·exact DS hs
  ·exact DX hs
  ·exact DV hs
 ·have e:gnW g=false:=by
   rw[Hu,show okG g=false from ?_,Bool.false_and]
   unfold okG
   rw[if_neg (by omega),if_neg (by omega),if_neg (by omega),if_neg (by omega),if_neg (by omega),if_neg (by omega),if_neg (by omega)]
  rw[e]
  obtain⟨k,o,t,b1,n,ak,av,pk,pv⟩:=g
  simp only at hk
  have g0:(k==0)=false:=beq_eq_false_iff_ne.2 (by omega)
  have g1:(k==1)=false:=beq_eq_false_iff_ne.2 (by omega)
  have g2:(k==2)=false:=beq_eq_false_iff_ne.2 (by omega)
  have g3:(k==3)=false:=beq_eq_false_iff_ne.2 (by omega)
  have g4:(k==4)=false:=beq_eq_false_iff_ne.2 (by omega)
  have g5:(k==5)=false:=beq_eq_false_iff_ne.2 (by omega)
  have g6:(k==6)=false:=beq_eq_false_iff_ne.2 (by omega)
  have g7:(k==7)=false:=beq_eq_false_iff_ne.2 (by omega)
  have g8:(k==8)=false:=beq_eq_false_iff_ne.2 (by omega)
  refine acQ 100 Tryz.func45 rfl rfl fun _ _ _=> ?_
  (repeat'((conv=>whnf);first|refine NBr.neg asQ ?_|refine NBr.no ?_));(all_goals(conv=>whnf))
  all_goals exact NEnd.eq leQ
theorem Gq {g:Gn} (h:gnW g=true):okG g=true:=by rw[Hu] at h;simp at h;exact h.1
theorem vB {k:Int} {l:List UInt8} (h:fiB k l=true):0<k:=by
 have hv:=G6 h
 have hk:¬Aj k<0:=by unfold Ah at hv;simp at hv;omega
 rcases Co k hk with rfl|rfl|rfl|rfl|rfl|rfl|rfl<;>omega
theorem vC {k:Int} {l:List UInt8} (h:fiB k l=true) (hl:l.length≤3000000):Aa Tryz.prog 76 [txA k l] (fun r=>r= .tup [Au 0 5 (txE k l),iv 0]):=by
 have:=uU k l (by omega)
 unfold frS at this
 rw[if_pos (G6 h)] at this
 exact this
theorem Bt {p:Prop} (h:p:=by first|rfl|(simp only[AV.gives,AV.ren,AV.give,D.un,D.uns,Ag,Af,List.nil_append,List.append_nil,List.cons_append,Ai,Al,As,Aq,An,Ar,Ax,Ck,Bq,Ce,Bg];first|done|rfl)):p:=h
theorem DY {o t b1:List UInt8} {n:List (List Att)} {ak:Int} {av:List UInt8} {pk:Int} {pv:List UInt8} (hs:(⟨0,o,t,b1,n,ak,av,pk,pv⟩:Gn).zz) (hw:gnW ⟨0,o,t,b1,n,ak,av,pk,pv⟩=true):Aa Tryz.prog 52 [gnA ⟨0,o,t,b1,n,ak,av,pk,pv⟩] (fun r=>r= .tup [Au 0 5 (gnE ⟨0,o,t,b1,n,ak,av,pk,pv⟩),iv 0]):=by
 have hV:=En _ hs
 rw[hw] at hV
 have hok:=Gq hw
 clear hw
 obtain⟨s1,s2,s3,s4,s5,s6⟩:=hs
 simp only at s1 s2 s3 s4 s5 s6
 have hok:(Dy o&&Dl b1)=true:=hok
 rw[Bool.and_eq_true] at hok
 have hE:gnE ⟨0,o,t,b1,n,ak,av,pk,pv⟩=Ae 2 0 true (Ae 0 6 false (A0 o)++Ae 2 0 true b1):=by
  unfold gnE;rw[show Dh ⟨0,o,t,b1,n,ak,av,pk,pv⟩=some (Ae 0 6 false (A0 o)++Ae 2 0 true b1) from if_pos hok.1];rfl
 rw[hE]
 have k1:=D3 o
 have k2:=Ak 0 6 false (A0 o) (by omega)
 have k3:=Ak 2 0 true b1 (by omega)
 have hO:=T1 o (by omega)
 have hP:Aa Tryz.prog 32 [cv 160,.d (Ac false b1)] (fun r=>r=Au 0 5 (Ae 2 0 true b1)):=Cr 160 b1 (by omega)
 have hQ:Aa Tryz.prog 34 [cv 160,.d (Cg [Pv o,Ae 2 0 true b1])] (fun r=>r=Au 0 5 (Ae 2 0 true (Ae 0 6 false (A0 o)++Ae 2 0 true b1))):=by
  have:=Fj 160 [Pv o,Ae 2 0 true b1] (by simp) (by simp[Pv];omega)
  rw[show [Pv o,Ae 2 0 true b1].flatten=Ae 0 6 false (A0 o)++Ae 2 0 true b1 by simp[Pv]] at this
  exact this
 generalize Ae 2 0 true (Ae 0 6 false (A0 o)++Ae 2 0 true b1)=E at hQ⊢
 generalize Ae 2 0 true b1=e1 at hP hQ
 generalize Pv o=e2 at hO hQ
 clear hE hok
 refine acQ 106 Tryz.func52 rfl rfl fun _ _ _=> ?_
 (repeat'((conv=>whnf);first|refine NBr.yes ?_|refine NBr.no ?_|refine NCall.eq hV Bt ?_|refine NCall.eq hO rfl ?_|refine NCall.eq hP Bt ?_|refine NCall.eq hQ Bt ?_|(with_reducible refine NInt.i64 ?_)|(with_reducible refine NInt.u8 ?_)|refine NFact.go ⟨by decide+kernel,by kernel_rfl⟩ ?_));(all_goals(conv=>whnf))
 all_goals exact NEnd.eq leQ
theorem DZ {o t b1:List UInt8} {n:List (List Att)} {ak:Int} {av:List UInt8} {pk:Int} {pv:List UInt8} (hs:(⟨1,o,t,b1,n,ak,av,pk,pv⟩:Gn).zz) (hw:gnW ⟨1,o,t,b1,n,ak,av,pk,pv⟩=true):Aa Tryz.prog 52 [gnA ⟨1,o,t,b1,n,ak,av,pk,pv⟩] (fun r=>r= .tup [Au 0 5 (gnE ⟨1,o,t,b1,n,ak,av,pk,pv⟩),iv 0]):=by
 have hV:=En _ hs
 rw[hw] at hV
 have hok:=Gq hw
 clear hw
 obtain⟨s1,s2,s3,s4,s5,s6⟩:=hs
 simp only at s1 s2 s3 s4 s5 s6
 have hok:Ah 22 t=true:=hok
 have hE:gnE ⟨1,o,t,b1,n,ak,av,pk,pv⟩=Ae 2 1 false (chS 22 t):=by
  unfold gnE;rw[show Dh ⟨1,o,t,b1,n,ak,av,pk,pv⟩=some (chS 22 t) from if_pos hok];rfl
 rw[hE]
 have hC:=F3 22 t (by omega)
 rw[show Dm 22 t=chS 22 t by unfold Dm;rw[hok];rfl] at hC
 have h4:=Fm hok
 have hP:Aa Tryz.prog 32 [cv 129,.d (Ac false (chS 22 t))] (fun r=>r=Au 0 5 (Ae 2 1 false (chS 22 t))):=Cr 129 (chS 22 t) (by omega)
 generalize Ae 2 1 false (chS 22 t)=E at hP⊢
 generalize chS 22 t=c at hC hP
 clear hE hok h4
 refine acQ 106 Tryz.func52 rfl rfl fun _ _ _=> ?_
 (repeat'((conv=>whnf);first|refine NBr.no ?_|refine NCall.eq hV Bt ?_|refine NCall.eq hC rfl ?_|refine NCall.eq hP Bt ?_|(with_reducible refine NInt.i64 ?_)|(with_reducible refine NInt.u8 ?_)));(all_goals(conv=>whnf))
 all_goals exact NEnd.eq leQ
theorem EA {o t b1:List UInt8} {n:List (List Att)} {ak:Int} {av:List UInt8} {pk:Int} {pv:List UInt8} (hs:(⟨2,o,t,b1,n,ak,av,pk,pv⟩:Gn).zz) (hw:gnW ⟨2,o,t,b1,n,ak,av,pk,pv⟩=true):Aa Tryz.prog 52 [gnA ⟨2,o,t,b1,n,ak,av,pk,pv⟩] (fun r=>r= .tup [Au 0 5 (gnE ⟨2,o,t,b1,n,ak,av,pk,pv⟩),iv 0]):=by
 have hV:=En _ hs
 rw[hw] at hV
 have hok:=Gq hw
 clear hw
 obtain⟨s1,s2,s3,s4,s5,s6⟩:=hs
 simp only at s1 s2 s3 s4 s5 s6
 have hok:Ah 22 t=true:=hok
 have hE:gnE ⟨2,o,t,b1,n,ak,av,pk,pv⟩=Ae 2 2 false (chS 22 t):=by
  unfold gnE;rw[show Dh ⟨2,o,t,b1,n,ak,av,pk,pv⟩=some (chS 22 t) from if_pos hok];rfl
 rw[hE]
 have hC:=F3 22 t (by omega)
 rw[show Dm 22 t=chS 22 t by unfold Dm;rw[hok];rfl] at hC
 have h4:=Fm hok
 have hP:Aa Tryz.prog 32 [cv 130,.d (Ac false (chS 22 t))] (fun r=>r=Au 0 5 (Ae 2 2 false (chS 22 t))):=Cr 130 (chS 22 t) (by omega)
 generalize Ae 2 2 false (chS 22 t)=E at hP⊢
 generalize chS 22 t=c at hC hP
 clear hE hok h4
 refine acQ 106 Tryz.func52 rfl rfl fun _ _ _=> ?_
 (repeat'((conv=>whnf);first|refine NBr.no ?_|refine NCall.eq hV Bt ?_|refine NCall.eq hC rfl ?_|refine NCall.eq hP Bt ?_|(with_reducible refine NInt.i64 ?_)|(with_reducible refine NInt.u8 ?_)));(all_goals(conv=>whnf))
 all_goals exact NEnd.eq leQ
theorem EB {o t b1:List UInt8} {n:List (List Att)} {ak:Int} {av:List UInt8} {pk:Int} {pv:List UInt8} (hs:(⟨6,o,t,b1,n,ak,av,pk,pv⟩:Gn).zz) (hw:gnW ⟨6,o,t,b1,n,ak,av,pk,pv⟩=true):Aa Tryz.prog 52 [gnA ⟨6,o,t,b1,n,ak,av,pk,pv⟩] (fun r=>r= .tup [Au 0 5 (gnE ⟨6,o,t,b1,n,ak,av,pk,pv⟩),iv 0]):=by
 have hV:=En _ hs
 rw[hw] at hV
 have hok:=Gq hw
 clear hw
 obtain⟨s1,s2,s3,s4,s5,s6⟩:=hs
 simp only at s1 s2 s3 s4 s5 s6
 have hok:Ah 22 t=true:=hok
 have hE:gnE ⟨6,o,t,b1,n,ak,av,pk,pv⟩=Ae 2 6 false (chS 22 t):=by
  unfold gnE;rw[show Dh ⟨6,o,t,b1,n,ak,av,pk,pv⟩=some (chS 22 t) from if_pos hok];rfl
 rw[hE]
 have hC:=F3 22 t (by omega)
 rw[show Dm 22 t=chS 22 t by unfold Dm;rw[hok];rfl] at hC
 have h4:=Fm hok
 have hP:Aa Tryz.prog 32 [cv 134,.d (Ac false (chS 22 t))] (fun r=>r=Au 0 5 (Ae 2 6 false (chS 22 t))):=Cr 134 (chS 22 t) (by omega)
 generalize Ae 2 6 false (chS 22 t)=E at hP⊢
 generalize chS 22 t=c at hC hP
 clear hE hok h4
 refine acQ 106 Tryz.func52 rfl rfl fun _ _ _=> ?_
 (repeat'((conv=>whnf);first|refine NBr.no ?_|refine NCall.eq hV Bt ?_|refine NCall.eq hC rfl ?_|refine NCall.eq hP Bt ?_|(with_reducible refine NInt.i64 ?_)|(with_reducible refine NInt.u8 ?_)));(all_goals(conv=>whnf))
 all_goals exact NEnd.eq leQ
theorem EC {o t b1:List UInt8} {n:List (List Att)} {ak:Int} {av:List UInt8} {pk:Int} {pv:List UInt8} (hs:(⟨3,o,t,b1,n,ak,av,pk,pv⟩:Gn).zz) (hw:gnW ⟨3,o,t,b1,n,ak,av,pk,pv⟩=true):Aa Tryz.prog 52 [gnA ⟨3,o,t,b1,n,ak,av,pk,pv⟩] (fun r=>r= .tup [Au 0 5 (gnE ⟨3,o,t,b1,n,ak,av,pk,pv⟩),iv 0]):=by
 have hV:=En _ hs
 rw[hw] at hV
 have hok:=Gq hw
 clear hw
 obtain⟨s1,s2,s3,s4,s5,s6⟩:=hs
 simp only at s1 s2 s3 s4 s5 s6
 clear hok
 have hE:gnE ⟨3,o,t,b1,n,ak,av,pk,pv⟩=Ae 2 3 true (b1):=by
  unfold gnE;rw[show Dh ⟨3,o,t,b1,n,ak,av,pk,pv⟩=some (b1) from rfl];rfl
 rw[hE]
 have hP:Aa Tryz.prog 32 [cv 163,.d (Ac false b1)] (fun r=>r=Au 0 5 (Ae 2 3 true b1)):=Cr 163 b1 (by omega)
 generalize Ae 2 3 true b1=E at hP⊢
 clear hE
 refine acQ 106 Tryz.func52 rfl rfl fun _ _ _=> ?_
 (repeat'((conv=>whnf);first|refine NBr.yes ?_|refine NBr.no ?_|refine NCall.eq hV Bt ?_|refine NCall.eq hP Bt ?_|(with_reducible refine NInt.i64 ?_)|(with_reducible refine NInt.u8 ?_)));(all_goals(conv=>whnf))
 all_goals exact NEnd.eq leQ
theorem ED {o t b1:List UInt8} {n:List (List Att)} {ak:Int} {av:List UInt8} {pk:Int} {pv:List UInt8} (hs:(⟨7,o,t,b1,n,ak,av,pk,pv⟩:Gn).zz) (hw:gnW ⟨7,o,t,b1,n,ak,av,pk,pv⟩=true):Aa Tryz.prog 52 [gnA ⟨7,o,t,b1,n,ak,av,pk,pv⟩] (fun r=>r= .tup [Au 0 5 (gnE ⟨7,o,t,b1,n,ak,av,pk,pv⟩),iv 0]):=by
 have hV:=En _ hs
 rw[hw] at hV
 have hok:=Gq hw
 clear hw
 obtain⟨s1,s2,s3,s4,s5,s6⟩:=hs
 simp only at s1 s2 s3 s4 s5 s6
 clear hok
 have hE:gnE ⟨7,o,t,b1,n,ak,av,pk,pv⟩=Ae 2 7 false (b1):=by
  unfold gnE;rw[show Dh ⟨7,o,t,b1,n,ak,av,pk,pv⟩=some (b1) from rfl];rfl
 rw[hE]
 have hP:Aa Tryz.prog 32 [cv 135,.d (Ac false b1)] (fun r=>r=Au 0 5 (Ae 2 7 false b1)):=Cr 135 b1 (by omega)
 generalize Ae 2 7 false b1=E at hP⊢
 clear hE
 refine acQ 106 Tryz.func52 rfl rfl fun _ _ _=> ?_
 (repeat'((conv=>whnf);first|refine NBr.yes ?_|refine NBr.no ?_|refine NCall.eq hV Bt ?_|refine NCall.eq hP Bt ?_|(with_reducible refine NInt.i64 ?_)|(with_reducible refine NInt.u8 ?_)));(all_goals(conv=>whnf))
 all_goals exact NEnd.eq leQ
theorem EE {o t b1:List UInt8} {n:List (List Att)} {ak:Int} {av:List UInt8} {pk:Int} {pv:List UInt8} (hs:(⟨4,o,t,b1,n,ak,av,pk,pv⟩:Gn).zz) (hw:gnW ⟨4,o,t,b1,n,ak,av,pk,pv⟩=true):Aa Tryz.prog 52 [gnA ⟨4,o,t,b1,n,ak,av,pk,pv⟩] (fun r=>r= .tup [Au 0 5 (gnE ⟨4,o,t,b1,n,ak,av,pk,pv⟩),iv 0]):=by
 have hV:=En _ hs
 rw[hw] at hV
 have hok:=Gq hw
 clear hw
 obtain⟨s1,s2,s3,s4,s5,s6⟩:=hs
 simp only at s1 s2 s3 s4 s5 s6
 have hok:nmV n=true:=hok
 have hE:gnE ⟨4,o,t,b1,n,ak,av,pk,pv⟩=Ae 2 4 true (nmE n):=by
  unfold gnE;rw[show Dh ⟨4,o,t,b1,n,ak,av,pk,pv⟩=some (nmE n) from if_pos hok];rfl
 rw[hE]
 have hM:=uV n s4
 rw[if_pos hok] at hM
 have k1:=Ak 0 16 true ((n.map By).flatten) (by have:=s4.e;omega)
 have k2:(nmE n).length≤90000006:=by have:=s4.e;unfold nmE;omega
 have hP:Aa Tryz.prog 32 [cv 164,.d (Ac false (nmE n))] (fun r=>r=Au 0 5 (Ae 2 4 true (nmE n))):=Cr 164 (nmE n) (by omega)
 generalize Ae 2 4 true (nmE n)=E at hP⊢
 generalize nmE n=c at hM hP
 clear hE hok k1 k2
 refine acQ 106 Tryz.func52 rfl rfl fun _ _ _=> ?_
 (repeat'((conv=>whnf);first|refine NBr.yes ?_|refine NBr.no ?_|refine NCall.eq hV Bt ?_|refine NCall.eq hM Bt ?_|refine NCall.eq hP Bt ?_|(with_reducible refine NInt.i64 ?_)|(with_reducible refine NInt.u8 ?_)));(all_goals(conv=>whnf))
 all_goals exact NEnd.eq leQ
theorem EF {o t b1:List UInt8} {n:List (List Att)} {ak:Int} {av:List UInt8} {pk:Int} {pv:List UInt8} (hs:(⟨8,o,t,b1,n,ak,av,pk,pv⟩:Gn).zz) (hw:gnW ⟨8,o,t,b1,n,ak,av,pk,pv⟩=true):Aa Tryz.prog 52 [gnA ⟨8,o,t,b1,n,ak,av,pk,pv⟩] (fun r=>r= .tup [Au 0 5 (gnE ⟨8,o,t,b1,n,ak,av,pk,pv⟩),iv 0]):=by
 have hV:=En _ hs
 rw[hw] at hV
 have hok:=Gq hw
 clear hw
 obtain⟨s1,s2,s3,s4,s5,s6⟩:=hs
 simp only at s1 s2 s3 s4 s5 s6
 have hok:Dy o=true:=hok
 have hE:gnE ⟨8,o,t,b1,n,ak,av,pk,pv⟩=Ae 2 8 false (A0 o):=by
  unfold gnE;rw[show Dh ⟨8,o,t,b1,n,ak,av,pk,pv⟩=some (A0 o) from if_pos hok];rfl
 rw[hE]
 have hC:=K6 o (by omega)
 have k1:=D3 o
 have hP:Aa Tryz.prog 32 [cv 136,.d (Ac false (A0 o))] (fun r=>r=Au 0 5 (Ae 2 8 false (A0 o))):=Cr 136 (A0 o) (by omega)
 generalize Ae 2 8 false (A0 o)=E at hP⊢
 generalize A0 o=c at hC hP
 clear hE hok k1
 refine acQ 106 Tryz.func52 rfl rfl fun _ _ _=> ?_
 (repeat'((conv=>whnf);first|refine NBr.yes ?_|refine NBr.no ?_|refine NCall.eq hV Bt ?_|refine NCall.eq hC rfl ?_|refine NCall.eq hP Bt ?_|(with_reducible refine NInt.i64 ?_)|(with_reducible refine NInt.u8 ?_)));(all_goals(conv=>whnf))
 all_goals exact NEnd.eq leQ
theorem EG {o t b1:List UInt8} {n:List (List Att)} {ak:Int} {av:List UInt8} {pk:Int} {pv:List UInt8} (hs:(⟨5,o,t,b1,n,ak,av,pk,pv⟩:Gn).zz) (hw:gnW ⟨5,o,t,b1,n,ak,av,pk,pv⟩=true):Aa Tryz.prog 52 [gnA ⟨5,o,t,b1,n,ak,av,pk,pv⟩] (fun r=>r= .tup [Au 0 5 (gnE ⟨5,o,t,b1,n,ak,av,pk,pv⟩),iv 0]):=by
 have hV:=En _ hs
 rw[hw] at hV
 have hok:=Gq hw
 clear hw
 obtain⟨s1,s2,s3,s4,s5,s6⟩:=hs
 simp only at s1 s2 s3 s4 s5 s6
 have hok:((zT ak av||fiB ak av)&&fiB pk pv)=true:=hok
 rw[Bool.and_eq_true] at hok
 obtain⟨h1,h2⟩:=hok
 have hF:=vC h2 s6
 have l2:=E7 (G6 h2) s6
 have x2:=Ak 2 1 true (txE pk pv) (by omega)
 have hP1:Aa Tryz.prog 32 [cv 161,.d (Ac false (txE pk pv))] (fun r=>r=Au 0 5 (Ae 2 1 true (txE pk pv))):=Cr 161 (txE pk pv) (by omega)
 cases hz:zT ak av
 ·rw[hz,Bool.false_or] at h1
  have hG:=vC h1 s5
  have l1:=E7 (G6 h1) s5
  have x1:=Ak 2 0 true (txE ak av) (by omega)
  have hP0:Aa Tryz.prog 32 [cv 160,.d (Ac false (txE ak av))] (fun r=>r=Au 0 5 (Ae 2 0 true (txE ak av))):=Cr 160 (txE ak av) (by omega)
  have hE:gnE ⟨5,o,t,b1,n,ak,av,pk,pv⟩=I3 165 [Ae 2 0 true (txE ak av),Ae 2 1 true (txE pk pv)].flatten:=by
   unfold gnE
   rw[show Dh ⟨5,o,t,b1,n,ak,av,pk,pv⟩=Li ⟨5,o,t,b1,n,ak,av,pk,pv⟩ from rfl]
   unfold Li
   simp only
   rw[hz,G6 h1,G6 h2]
   show Ae 2 5 true (Ae 2 0 true (txE ak av)++Ae 2 1 true (txE pk pv))=_
   simp only[List.flatten_cons,List.flatten_nil,List.append_nil]
   rfl
  have hQ:=Fj 165 [Ae 2 0 true (txE ak av),Ae 2 1 true (txE pk pv)] (by simp) (by simp;omega)
  rw[←hE] at hQ
  have hQ:Aa Tryz.prog 34 [cv 165,.d (Cg [Ae 2 0 true (txE ak av),Ae 2 1 true (txE pk pv)])] _:=hQ
  generalize gnE _=E at hQ⊢
  have g0:decide ((ak:Int)>0)=true:=decide_eq_true (vB h1)
  generalize Ae 2 0 true (txE ak av)=e0 at hP0 hQ x1
  generalize Ae 2 1 true (txE pk pv)=e1 at hP1 hQ x2
  generalize txE ak av=t0 at hG hP0 l1
  generalize txE pk pv=t1 at hF hP1 l2
  clear hE hz h1 h2
  refine acQ 106 Tryz.func52 rfl rfl fun _ _ _=> ?_
  (repeat'((conv=>whnf);first|refine NBr.pos asQ ?_|refine NBr.yes ?_|refine NBr.no ?_|refine NCall.eq hV Bt ?_|refine NCall.eq hG rfl ?_|refine NCall.eq hP0 Bt ?_|refine NCall.eq hF rfl ?_|refine NCall.eq hP1 Bt ?_|refine NApp.one0 Ej e0 ?_|refine NApp.one Ej e1 ?_|refine NCall.eq hQ Bt ?_|(with_reducible refine NInt.i64 ?_)|(with_reducible refine NInt.u8 ?_)));(all_goals(conv=>whnf))
  all_goals exact NEnd.eq leQ
 ·obtain⟨rfl,rfl⟩:=P2.1 hz
  have hE:gnE ⟨5,o,t,b1,n,0,[],pk,pv⟩=I3 165 [Ae 2 1 true (txE pk pv)].flatten:=by
   unfold gnE
   rw[show Dh ⟨5,o,t,b1,n,0,[],pk,pv⟩=Li ⟨5,o,t,b1,n,0,[],pk,pv⟩ from rfl]
   unfold Li
   simp only
   rw[hz,G6 h2]
   show Ae 2 5 true ([]++Ae 2 1 true (txE pk pv))=_
   simp only[List.flatten_cons,List.flatten_nil,List.append_nil,List.nil_append]
   rfl
  have hQ:=Fj 165 [Ae 2 1 true (txE pk pv)] (by simp) (by simp;omega)
  rw[←hE] at hQ
  have hQ:Aa Tryz.prog 34 [cv 165,.d (Cg [Ae 2 1 true (txE pk pv)])] _:=hQ
  generalize gnE _=E at hQ⊢
  generalize Ae 2 1 true (txE pk pv)=e1 at hP1 hQ x2
  generalize txE pk pv=t1 at hF hP1 l2
  clear hE hz h1 h2
  refine acQ 106 Tryz.func52 rfl rfl fun _ _ _=> ?_
  (repeat'((conv=>whnf);first|refine NBr.yes ?_|refine NBr.no ?_|refine NCall.eq hV Bt ?_|refine NCall.eq hF rfl ?_|refine NCall.eq hP1 Bt ?_|refine NApp.one0 Ej e1 ?_|refine NCall.eq hQ Bt ?_|(with_reducible refine NInt.i64 ?_)|(with_reducible refine NInt.u8 ?_)));(all_goals(conv=>whnf))
  all_goals exact NEnd.eq leQ
theorem vD {g:Gn} (h:gnW g=true):g.k=0∨g.k=1∨g.k=2∨g.k=3∨g.k=4∨g.k=5∨g.k=6∨g.k=7∨g.k=8:=by
 have hok:=Gq h
 by_cases hk:g.k=0∨g.k=1∨g.k=2∨g.k=3∨g.k=4∨g.k=5∨g.k=6∨g.k=7∨g.k=8
 ·exact hk
 ·unfold okG at hok
  rw[if_neg (by omega),if_neg (by omega),if_neg (by omega),if_neg (by omega),if_neg (by omega),if_neg (by omega),if_neg (by omega)] at hok
  cases hok
theorem vE (g:Gn) (hs:g.zz):Aa Tryz.prog 52 [gnA g] (fun r=>r=P0 (gnW g) (gnE g)):=by
 cases hw:gnW g
 ·have hV:=En g hs
  rw[hw] at hV
  clear hw
  refine acQ 106 Tryz.func52 rfl rfl fun _ _ _=> ?_
  (repeat'((conv=>whnf);first|refine NBr.yes ?_|refine NCall.eq hV Bt ?_));(all_goals(conv=>whnf))
  all_goals exact NEnd.eq leQ
 ·show Aa Tryz.prog 52 [gnA g] (fun r=>r= .tup [Au 0 5 (gnE g),iv 0])
  have hk:=vD hw
  obtain⟨k,o,t,b1,n,ak,av,pk,pv⟩:=g
  simp only at hk
  rcases hk with rfl|rfl|rfl|rfl|rfl|rfl|rfl|rfl|rfl
  ·exact DY hs hw
  ·exact DZ hs hw
  ·exact EA hs hw
  ·exact EC hs hw
  ·exact EE hs hw
  ·exact EG hs hw
  ·exact EB hs hw
  ·exact ED hs hw
  ·exact EF hs hw
abbrev gnF (g:Gn):AV:= .agg [iv g.k,.d (sD g.oid),.d (sD g.tx),.d (Ac false g.by'),.d (Qu g.nm),iv g.ak,.d (sD g.av),iv g.pk,.d (sD g.pv)]
structure insOk (t:Tr):Prop where
 l:t.ks.length≤100000
 k:∀k∈t.ks,k.ok
 e:(Tr.encs t.ks).length≤800000000
theorem Cb {p:Prop} (h:p:=by first|rfl|(simp only[AV.gives,AV.ren,AV.give,D.un,D.uns,Ag,Af,List.nil_append,List.append_nil,List.cons_append,Ai,Al,As,Aq,An,Ar,Ax,Ck,Bq,Ce,Bg,Tr.cellss_un];first|done|rfl)):p:=h
theorem cD (t:Tr) (ht:insOk t):Aa Tryz.prog 112 [trF t] (fun r=>r= .d (Ac true (Tr.encs t.ks))):=by
 obtain⟨h1,h2,h3⟩:=ht
 obtain⟨c,n,k,b,ks⟩:=t
 rw[Bl]
 simp only[Tr.ks] at h1 h2 h3⊢
 refine acQ 21 Tryz.func112 rfl rfl fun _ _ _=> ?_
 (all_goals(conv=>whnf))
 refine NLoop.goA [.s 3 1 5] (fun i:Nat=>i≤ks.length) (fun i=>ks.length-i) (fun i=>⟨[(1,.ptr 1 0),(3,Au 3 5 (Tr.encs (ks.take i))),(4,iv i)],[(1,[iv c,iv n,bv k,.d (Ac false b),.d (.sl false ks.length 5 (Tr.cellss false ks))])],[(3,((Tr.encs (ks.take i)).length,1,5))]⟩) 0 (by omega) leQ ?_
 rintro i hi
 have ht:=Tr.encs_le ks i
 by_cases hik:i<ks.length
 ·have gi:decide ((i:Int)<ks.length)=true:=decide_eq_true (by omega)
  obtain⟨x,hg⟩:∃p,ks[i]?=some p:=⟨_,List.getElem?_eq_getElem hik⟩
  have hs:=Tr.encs_snoc hg
  have ht2:=Tr.encs_le ks (i+1)
  rw[hs,List.length_append] at ht2
  have hB:=Nf x (h2 x (List.mem_of_getElem? hg)) (by omega)
  generalize x.enc=e at hB hs ht2
  generalize Tr.encs (ks.take i)=Q at hs ht ht2⊢
  obtain⟨c',n',k',b',ks'⟩:=x
  rw[Bl] at hB
  (repeat'((conv=>whnf);first|refine NBr.pos asQ ?_|(refine NIdx.trs hg ?_)|refine NCall.eq hB Cb ?_|(with_reducible refine NInt.i64 ?_)|(with_reducible refine NApp.bytes ?_)));(all_goals(conv=>whnf))
  refine⟨i+1,by omega,by omega,?_⟩
  rw[hs]
  exact leQ
 ·have gi:decide ((i:Int)<ks.length)=false:=decide_eq_false (by omega)
  obtain rfl:i=ks.length:=by omega
  rw[List.take_length]
  (repeat'((conv=>whnf);refine NBr.neg asQ ?_));(all_goals(conv=>whnf))
  all_goals exact NEnd.eq leQ
structure Tr.gn (t:Tr):Prop where
 v:t.v.length≤30000
 k0:(t.kid 0).v.length≤30000
 i:insOk t
 i1:insOk (t.kid 1)
 nm:(t.kid 0).nm
 a:((t.kid 0).kid 0).v.length≤1000000
 p:((t.kid 1).kid 0).v.length≤1000000
theorem FY (t:Tr) (c n:Nat) (k:Bool):t.isB c n k=isT t c n k:=by
 obtain⟨c',n',k',b',ks'⟩:=t
 exact Bool.and_assoc _ _ _
theorem EH {c:Nat} {k:Bool} {b:List UInt8} {ks:List Tr} (ht:(Tr.mk c 0 k b ks).gn):Aa Tryz.prog 82 [trF (.mk c 0 k b ks)] (fun r=>r=gnF (A1 (.mk c 0 k b ks))):=by
 obtain⟨h1,h2,h3,h4,h5,h6,h7⟩:=ht
 have hK0:=Ia (.mk c 0 k b ks) 0 (by omega)
 have hK1:=Ia (.mk c 0 k b ks) 1 (by omega)
 have hR:=Lb _ h2
 have hI:=cD _ h4
 rw[show A1 (.mk c 0 k b ks)=⟨0,odT ((Tr.mk c 0 k b ks).kid 0).v,[],Tr.encs ((Tr.mk c 0 k b ks).kid 1).ks,[],0,[],0,[]⟩ from rfl]
 generalize odT _=o at hR⊢
 generalize Tr.encs _=e at hI⊢
 generalize (Tr.mk c 0 k b ks).kid 0=k0 at hK0 hR
 generalize (Tr.mk c 0 k b ks).kid 1=k1 at hK1 hI
 clear h1 h2 h3 h4 h5 h6 h7
 obtain⟨c0,n0,j0,b0,ks0⟩:=k0
 obtain⟨c1,n1,j1,b1,ks1⟩:=k1
 simp only[Bl] at hK0 hK1 hR hI⊢
 refine acQ 73 Tryz.func82 rfl rfl fun _ _ _=> ?_
 (repeat'((conv=>whnf);first|refine NBr.yes ?_|refine NCall.eq hK0 Cb ?_|refine NCall.eq hR Cb ?_|refine NCall.eq hK1 Cb ?_|refine NCall.eq hI Cb ?_));(all_goals(conv=>whnf))
 all_goals exact NEnd.eq leQ
theorem EI {c:Nat} {k:Bool} {b:List UInt8} {ks:List Tr} (ht:(Tr.mk c 1 k b ks).gn):Aa Tryz.prog 82 [trF (.mk c 1 k b ks)] (fun r=>r=gnF (A1 (.mk c 1 k b ks))):=by
 obtain⟨h1,h2,h3,h4,h5,h6,h7⟩:=ht
 have hD:=G5 22 b (by have:=h1;simp only[Tr.v] at this;omega)
 rw[show A1 (.mk c 1 k b ks)=⟨1,[],Bv 22 b,[],[],0,[],0,[]⟩ from rfl]
 clear h1 h2 h3 h4 h5 h6 h7
 rw[Bl]
 refine acQ 73 Tryz.func82 rfl rfl fun _ _ _=> ?_
 (repeat'((conv=>whnf);first|refine NBr.yes ?_|refine NBr.no ?_|refine NCall.eq hD Cb ?_));(all_goals(conv=>whnf))
 all_goals exact NEnd.eq leQ
theorem EJ {c:Nat} {k:Bool} {b:List UInt8} {ks:List Tr} (ht:(Tr.mk c 2 k b ks).gn):Aa Tryz.prog 82 [trF (.mk c 2 k b ks)] (fun r=>r=gnF (A1 (.mk c 2 k b ks))):=by
 obtain⟨h1,h2,h3,h4,h5,h6,h7⟩:=ht
 have hD:=G5 22 b (by have:=h1;simp only[Tr.v] at this;omega)
 rw[show A1 (.mk c 2 k b ks)=⟨2,[],Bv 22 b,[],[],0,[],0,[]⟩ from rfl]
 clear h1 h2 h3 h4 h5 h6 h7
 rw[Bl]
 refine acQ 73 Tryz.func82 rfl rfl fun _ _ _=> ?_
 (repeat'((conv=>whnf);first|refine NBr.yes ?_|refine NBr.no ?_|refine NCall.eq hD Cb ?_));(all_goals(conv=>whnf))
 all_goals exact NEnd.eq leQ
theorem EK {c:Nat} {k:Bool} {b:List UInt8} {ks:List Tr} (ht:(Tr.mk c 6 k b ks).gn):Aa Tryz.prog 82 [trF (.mk c 6 k b ks)] (fun r=>r=gnF (A1 (.mk c 6 k b ks))):=by
 obtain⟨h1,h2,h3,h4,h5,h6,h7⟩:=ht
 have hD:=G5 22 b (by have:=h1;simp only[Tr.v] at this;omega)
 rw[show A1 (.mk c 6 k b ks)=⟨6,[],Bv 22 b,[],[],0,[],0,[]⟩ from rfl]
 clear h1 h2 h3 h4 h5 h6 h7
 rw[Bl]
 refine acQ 73 Tryz.func82 rfl rfl fun _ _ _=> ?_
 (repeat'((conv=>whnf);first|refine NBr.yes ?_|refine NBr.no ?_|refine NCall.eq hD Cb ?_));(all_goals(conv=>whnf))
 all_goals exact NEnd.eq leQ
theorem EL {c:Nat} {k:Bool} {b:List UInt8} {ks:List Tr} (ht:(Tr.mk c 3 k b ks).gn):Aa Tryz.prog 82 [trF (.mk c 3 k b ks)] (fun r=>r=gnF (A1 (.mk c 3 k b ks))):=by
 obtain⟨h1,h2,h3,h4,h5,h6,h7⟩:=ht
 have hI:=cD _ h3
 rw[show A1 (.mk c 3 k b ks)=⟨3,[],[],Tr.encs (Tr.mk c 3 k b ks).ks,[],0,[],0,[]⟩ from rfl]
 generalize Tr.encs _=e at hI⊢
 clear h1 h2 h3 h4 h5 h6 h7
 simp only[Bl] at hI⊢
 refine acQ 73 Tryz.func82 rfl rfl fun _ _ _=> ?_
 (repeat'((conv=>whnf);first|refine NBr.yes ?_|refine NBr.no ?_|refine NCall.eq hI Cb ?_));(all_goals(conv=>whnf))
 all_goals exact NEnd.eq leQ
theorem EM {c:Nat} {k:Bool} {b:List UInt8} {ks:List Tr} (ht:(Tr.mk c 4 k b ks).gn):Aa Tryz.prog 82 [trF (.mk c 4 k b ks)] (fun r=>r=gnF (A1 (.mk c 4 k b ks))):=by
 obtain⟨h1,h2,h3,h4,h5,h6,h7⟩:=ht
 have hK0:=Ia (.mk c 4 k b ks) 0 (by omega)
 have hN:=uW _ h5
 rw[show A1 (.mk c 4 k b ks)=⟨4,[],[],[],Lk ((Tr.mk c 4 k b ks).kid 0),0,[],0,[]⟩ from rfl]
 generalize Lk _=nm at hN⊢
 generalize (Tr.mk c 4 k b ks).kid 0=k0 at hK0 hN
 clear h1 h2 h3 h4 h5 h6 h7
 obtain⟨c0,n0,j0,b0,ks0⟩:=k0
 simp only[Bl] at hK0 hN⊢
 refine acQ 73 Tryz.func82 rfl rfl fun _ _ _=> ?_
 (repeat'((conv=>whnf);first|refine NBr.yes ?_|refine NBr.no ?_|refine NCall.eq hK0 Cb ?_|refine NCall.eq hN Cb ?_));(all_goals(conv=>whnf))
 all_goals exact NEnd.eq leQ
theorem EN {c:Nat} {k:Bool} {b:List UInt8} {ks:List Tr} (ht:(Tr.mk c 7 k b ks).gn):Aa Tryz.prog 82 [trF (.mk c 7 k b ks)] (fun r=>r=gnF (A1 (.mk c 7 k b ks))):=by
 obtain⟨h1,h2,h3,h4,h5,h6,h7⟩:=ht
 rw[show A1 (.mk c 7 k b ks)=⟨7,[],[],b,[],0,[],0,[]⟩ from rfl]
 clear h1 h2 h3 h4 h5 h6 h7
 rw[Bl]
 refine acQ 73 Tryz.func82 rfl rfl fun _ _ _=> ?_
 (repeat'((conv=>whnf);first|refine NBr.yes ?_|refine NBr.no ?_));(all_goals(conv=>whnf))
 all_goals exact NEnd.eq leQ
theorem EO {c:Nat} {k:Bool} {b:List UInt8} {ks:List Tr} (ht:(Tr.mk c 8 k b ks).gn):Aa Tryz.prog 82 [trF (.mk c 8 k b ks)] (fun r=>r=gnF (A1 (.mk c 8 k b ks))):=by
 obtain⟨h1,h2,h3,h4,h5,h6,h7⟩:=ht
 have hR:=Lb _ h1
 rw[show A1 (.mk c 8 k b ks)=⟨8,odT (Tr.mk c 8 k b ks).v,[],[],[],0,[],0,[]⟩ from rfl]
 generalize odT _=o at hR⊢
 clear h1 h2 h3 h4 h5 h6 h7
 simp only[Bl] at hR⊢
 refine acQ 73 Tryz.func82 rfl rfl fun _ _ _=> ?_
 (repeat'((conv=>whnf);first|refine NBr.yes ?_|refine NBr.no ?_|refine NCall.eq hR Cb ?_));(all_goals(conv=>whnf))
 all_goals exact NEnd.eq leQ
theorem EP {c:Nat} {k:Bool} {b:List UInt8} {ks:List Tr} (ht:(Tr.mk c 5 k b ks).gn):Aa Tryz.prog 82 [trF (.mk c 5 k b ks)] (fun r=>r=gnF (A1 (.mk c 5 k b ks))):=by
 obtain⟨h1,h2,h3,h4,h5,h6,h7⟩:=ht
 have hK0:=Ia (.mk c 5 k b ks) 0 (by omega)
 have hK1:=Ia (.mk c 5 k b ks) 1 (by omega)
 have hI:=zX ((Tr.mk c 5 k b ks).kid 0) 2 0 true
 rw[FY] at hI
 rw[show A1 (.mk c 5 k b ks)=if isT ((Tr.mk c 5 k b ks).kid 0) 2 0 true then⟨5,[],[],[],[],Mk (((Tr.mk c 5 k b ks).kid 0).kid 0),Ml (((Tr.mk c 5 k b ks).kid 0).kid 0),Mk (((Tr.mk c 5 k b ks).kid 1).kid 0),Ml (((Tr.mk c 5 k b ks).kid 1).kid 0)⟩ else⟨5,[],[],[],[],0,[],Mk (((Tr.mk c 5 k b ks).kid 0).kid 0),Ml (((Tr.mk c 5 k b ks).kid 0).kid 0)⟩ from rfl]
 generalize (Tr.mk c 5 k b ks).kid 0=k0 at hK0 hI h6⊢
 generalize (Tr.mk c 5 k b ks).kid 1=k1 at hK1 h7⊢
 have hJ0:=Ia k0 0 (by omega)
 have hJ1:=Ia k1 0 (by omega)
 have hS0:=cB _ h6
 have hS1:=cB _ h7
 generalize Mk (k0.kid 0)=a1 at hS0⊢
 generalize Ml (k0.kid 0)=a2 at hS0⊢
 generalize Mk (k1.kid 0)=p1 at hS1⊢
 generalize Ml (k1.kid 0)=p2 at hS1⊢
 generalize k0.kid 0=j0 at hJ0 hS0
 generalize k1.kid 0=j1 at hJ1 hS1
 clear h1 h2 h3 h4 h5 h6 h7
 cases hq:isT k0 2 0 true
 ·rw[hq] at hI
  rw[if_neg (by simp)]
  clear hq
  obtain⟨c0,n0,l0,b0,ks0⟩:=k0
  obtain⟨d0,m0,i0,x0,kt0⟩:=j0
  simp only[Bl] at hK0 hI hJ0 hS0⊢
  refine acQ 73 Tryz.func82 rfl rfl fun _ _ _=> ?_
  (repeat'((conv=>whnf);first|refine NBr.yes ?_|refine NBr.no ?_|refine NCall.eq hK0 Cb ?_|refine NCall.eq hI Cb ?_|refine NCall.eq hJ0 Cb ?_|refine NCall.eq hS0 Cb ?_));(all_goals(conv=>whnf))
  all_goals exact NEnd.eq leQ
 ·rw[hq] at hI
  rw[if_pos rfl]
  clear hq
  obtain⟨c0,n0,l0,b0,ks0⟩:=k0
  obtain⟨d0,m0,i0,x0,kt0⟩:=j0
  obtain⟨c1,n1,l1,b1,ks1⟩:=k1
  obtain⟨d1,m1,i1,x1,kt1⟩:=j1
  simp only[Bl] at hK0 hK1 hI hJ0 hS0 hJ1 hS1⊢
  refine acQ 73 Tryz.func82 rfl rfl fun _ _ _=> ?_
  (repeat'((conv=>whnf);first|refine NBr.yes ?_|refine NBr.no ?_|refine NCall.eq hK0 Cb ?_|refine NCall.eq hI Cb ?_|refine NCall.eq hJ0 Cb ?_|refine NCall.eq hS0 Cb ?_|refine NCall.eq hK1 Cb ?_|refine NCall.eq hJ1 Cb ?_|refine NCall.eq hS1 Cb ?_));(all_goals(conv=>whnf))
  all_goals exact NEnd.eq leQ
theorem vF (t:Tr) (ht:t.gn):Aa Tryz.prog 82 [trF t] (fun r=>r=gnF (A1 t)):=by
 obtain⟨c,n,k,b,ks⟩:=t
 by_cases hn:n≤8
 ·rcases(by omega:n=0∨n=1∨n=2∨n=3∨n=4∨n=5∨n=6∨n=7∨n=8) with rfl|rfl|rfl|rfl|rfl|rfl|rfl|rfl|rfl
  ·exact EH ht
  ·exact EI ht
  ·exact EJ ht
  ·exact EL ht
  ·exact EM ht
  ·exact EP ht
  ·exact EK ht
  ·exact EN ht
  ·exact EO ht
 ·have e:A1 (.mk c n k b ks)=⟨n,[],[],[],[],0,[],0,[]⟩:=by
   obtain⟨m,rfl⟩:∃m,n=m+9:=⟨n-9,by omega⟩
   rfl
  rw[e,Bl]
  have g0:((n:Int)==0)=false:=beq_eq_false_iff_ne.2 (by omega)
  have g1:((n:Int)==1)=false:=beq_eq_false_iff_ne.2 (by omega)
  have g2:((n:Int)==2)=false:=beq_eq_false_iff_ne.2 (by omega)
  have g3:((n:Int)==3)=false:=beq_eq_false_iff_ne.2 (by omega)
  have g4:((n:Int)==4)=false:=beq_eq_false_iff_ne.2 (by omega)
  have g5:((n:Int)==5)=false:=beq_eq_false_iff_ne.2 (by omega)
  have g6:((n:Int)==6)=false:=beq_eq_false_iff_ne.2 (by omega)
  have g7:((n:Int)==7)=false:=beq_eq_false_iff_ne.2 (by omega)
  have g8:((n:Int)==8)=false:=beq_eq_false_iff_ne.2 (by omega)
  refine acQ 73 Tryz.func82 rfl rfl fun _ _ _=> ?_
  (repeat'((conv=>whnf);refine NBr.neg asQ ?_));(all_goals(conv=>whnf))
  all_goals exact NEnd.eq leQ
end Go.Proofs.YtgamacmidohpfaaGreatDoor
