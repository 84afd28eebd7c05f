/- MS: the texts R13V R13M R13R, one behind the other. No condition but what each lemma says. -/
import Derived.Test.YtgmbmfoabndmoaaGreatDoorMR
import Derived.Test.YtgmbmfoabndmoaaGreatDoorMP
set_option maxRecDepth 100000
set_option maxHeartbeats 16000000
namespace Go.Proofs.YtgmbmfoabndmoaaGreatDoor
open Go.RowKit
def stB (a b c d e:Bool) (g:Gn):Gn:=⟨0,if a then [] else g.oid,if b then [] else g.tx,if c then [] else g.by',if d then [] else g.nm,if e then 0 else g.ak,if e then [] else g.av,if e then 0 else g.pk,if e then [] else g.pv⟩
theorem IG {α:Type} [BEq α] (l:List α):((l.length:Int)==0)=decide (l=[]):=by
 cases l with
 |nil=>rfl
 |cons a r=>rw[decide_eq_false (by simp)];exact beq_eq_false_iff_ne.2 (by simp;omega)
theorem Kg (a b c d e:Bool) (g:Gn):decide (stB a b c d e g=gz)=alB a b c d e g:=by
 obtain⟨k,o,t,b1,n,ak,av,pk,pv⟩:=g
 unfold stB gz alB zT
 simp only[IG]
 rw[Bool.eq_iff_iff]
 cases a<;>cases b<;>cases c<;>cases d<;>cases e<;>simp[and_assoc]
def okG (g:Gn):Bool:=
 if g.k=0 then Dz g.oid&&Dj g.by' else if g.k=1∨g.k=2∨g.k=6 then Af 22 g.tx
 else if g.k=3 then Dj (Ae 2 3 true g.by') else if g.k=4 then nmV g.nm
 else if g.k=5 then(zT g.ak g.av||fiB g.ak g.av)&&fiB g.pk g.pv
 else if g.k=7 then ip g.by'.length else if g.k=8 then Dz g.oid else false
theorem G7 {k:Int} {l:List UInt8} (h:fiB k l=true):Af k l=true:=by unfold fiB at h;simp at h;exact h.1
theorem H1 (g:Gn):gnW g=(okG g&&Bt g):=by
 rw[Bool.eq_iff_iff]
 unfold gnW okG Rn Dm Gj
 simp only[Bool.and_eq_true]
 by_cases h0:g.k=0
 ·rw[if_pos h0,if_pos h0,if_pos h0,h0];cases Dz g.oid<;>simp;exact and_comm
 rw[if_neg h0,if_neg h0,if_neg h0]
 by_cases h1:g.k=1∨g.k=2∨g.k=6
 ·rw[if_pos h1,if_pos h1,if_neg (by omega),if_neg (by omega),show(g.k==5)=false from beq_eq_false_iff_ne.2 (by omega)];cases Af 22 g.tx<;>simp
 rw[if_neg h1,if_neg h1]
 by_cases h3:g.k=3
 ·rw[if_pos h3,if_pos h3,if_pos (.inl h3),h3];simp;exact and_comm
 rw[if_neg h3,if_neg h3]
 by_cases h4:g.k=4
 ·rw[if_pos h4,if_neg (by omega),if_neg (by omega),if_pos h4,h4];cases nmV g.nm<;>simp
 rw[if_neg h4]
 by_cases h5:g.k=5
 ·rw[if_pos h5,if_neg (by omega),if_neg (by omega),if_neg h4,if_pos h5,h5]
  unfold Lv
  constructor
  ·rintro⟨a,h0,h1,h⟩;exact⟨by simpa using h,a⟩
  ·rintro⟨h,a⟩
   rw[Bool.and_eq_true] at h
   obtain⟨h1,h2⟩:=h
   refine⟨a,rfl,?_,by simp[h1,h2]⟩
   rw[if_pos]
   ·rfl
   ·rw[Bool.and_eq_true]
    refine⟨?_,G7 h2⟩
    rcases Bool.or_eq_true_iff.1 h1 with h|h
    ·rw[h];rfl
    ·rw[G7 h,Bool.or_true]
 rw[if_neg h5]
 by_cases h7:g.k=7
 ·rw[if_pos h7,if_pos h7,if_pos (.inr h7),h7];simp;exact and_comm
 rw[if_neg h7,if_neg h7]
 rw[if_neg (by omega),if_neg h4,if_neg h5,show(g.k==5)=false from beq_eq_false_iff_ne.2 h5]
 by_cases h8:g.k=8
 ·rw[if_pos h8,if_pos h8];cases Dz g.oid<;>simp
 ·rw[if_neg h8,if_neg h8];simp
theorem Kh {n:List (List Att)} (h:nmZ n):AZ n:=⟨by have:=h.l;omega,fun r hr=>⟨by have:=(h.r r hr).l;omega,fun a ha=>⟨by have:=((h.r r hr).a a ha).v;omega⟩⟩⟩
structure Gn.zz (g:Gn):Prop where
 o:g.oid.length≤3000000
 t:g.tx.length≤3000000
 b:g.by'.length≤3000000
 n:nmZ g.nm
 a:g.av.length≤3000000
 p:g.pv.length≤3000000
theorem Gn.sm.z {g:Gn} (h:g.sm):g.zz:=⟨h.o,h.t,h.b,h.n,h.a,h.p⟩
theorem Gn.zz.s {g:Gn} (h:g.zz):g.sm:=⟨h.o,h.t,h.b,h.n,h.a,h.p⟩
theorem Gn.zz.q {g:Gn} (h:g.zz):g.eqs:=⟨by have:=h.b;omega,Kh h.n⟩
theorem Ki:gz.eqs:=⟨by simp[gz],by simp[gz,AZ]⟩
theorem Ik {p:Prop} (h:p:=by first|rfl|(simp only[AV.gives,AV.ren,AV.give,D.un,D.uns,Ah,Ai,List.nil_append,List.append_nil,List.cons_append,Am,Av,Bv,A1,As,Bp,Bx,Cz,By,Ce,Br];first|done|rfl)):p:=h
theorem Ew {p:Prop} (h:p:=by((try simp only[AV.gives,AV.ren,AV.give,D.un,D.uns,Ah,Ai,List.nil_append,List.append_nil,List.cons_append,Am,Av,Bv,A1,As,Bp,Bx,Cz,By,Ce,Br]);(repeat'(first|exact trivial|exact Ak _|refine And.intro ?_ ?_|exact rfl|exact Or.inr rfl|exact Or.inl rfl|exact Or.inl (by rfl)|omega|refine Or.inr ?_));first|done|fail)):p:=h
theorem EP {o t b1:List UInt8} {n:List (List Att)} {ak:Int} {av:List UInt8} {pk:Int} {pv:List UInt8} (hs:(⟨0,o,t,b1,n,ak,av,pk,pv⟩:Gn).zz):Aa Tryz.prog 47 [gnA ⟨0,o,t,b1,n,ak,av,pk,pv⟩] (fun r=>r=bv (gnW ⟨0,o,t,b1,n,ak,av,pk,pv⟩)):=by
 have hG:=C4 ⟨0,[],t,[],n,ak,av,pk,pv⟩ gz ⟨by simp,Kh hs.n⟩ Ki
 obtain⟨s1,s2,s3,s4,s5,s6⟩:=hs
 simp only at s1 s2 s3 s4 s5 s6
 rw[show decide ((⟨0,[],t,[],n,ak,av,pk,pv⟩:Gn)=gz)=Bt ⟨0,o,t,b1,n,ak,av,pk,pv⟩ from Kg true false true false false ⟨0,o,t,b1,n,ak,av,pk,pv⟩] at hG
 rw[H1,show okG ⟨0,o,t,b1,n,ak,av,pk,pv⟩=(Dz o&&Dj b1) from rfl]
 generalize Bt _=A at hG⊢
 have hV:=Iy o (by omega)
 have hO:=N2 b1 (by omega)
 cases h1:Dz o
 ·rw[h1] at hV
  refine acQ 100 Tryz.func47 rfl rfl fun _ _ _=> ?_
  (repeat'((conv=>whnf);first|refine NBr.yes ?_|refine NBr.no ?_|refine NCall.eq hV rfl ?_));(all_goals(conv=>whnf))
  all_goals exact NEnd.eq leQ
 rw[h1] at hV
 cases h2:Dj b1
 ·rw[h2] at hO
  refine acQ 100 Tryz.func47 rfl rfl fun _ _ _=> ?_
  (repeat'((conv=>whnf);first|refine NBr.yes ?_|refine NBr.no ?_|refine NCall.eq hV rfl ?_|refine NCall.eq hO Ik ?_));(all_goals(conv=>whnf))
  all_goals exact NEnd.eq leQ
 ·rw[h2] at hO
  refine acQ 100 Tryz.func47 rfl rfl fun _ _ _=> ?_
  (repeat'((conv=>whnf);first|refine NBr.yes ?_|refine NCall.eq hV rfl ?_|refine NCall.eq hO Ik ?_|refine NCall.le hG Ew ?_));(all_goals(conv=>whnf))
  all_goals exact NEnd.eq leQ
theorem EQ {o t b1:List UInt8} {n:List (List Att)} {ak:Int} {av:List UInt8} {pk:Int} {pv:List UInt8} (hs:(⟨1,o,t,b1,n,ak,av,pk,pv⟩:Gn).zz):Aa Tryz.prog 47 [gnA ⟨1,o,t,b1,n,ak,av,pk,pv⟩] (fun r=>r=bv (gnW ⟨1,o,t,b1,n,ak,av,pk,pv⟩)):=by
 have hG:=C4 ⟨0,o,[],b1,n,ak,av,pk,pv⟩ gz ⟨by have:=hs.b;simp only at this⊢;omega,Kh hs.n⟩ Ki
 obtain⟨s1,s2,s3,s4,s5,s6⟩:=hs
 simp only at s1 s2 s3 s4 s5 s6
 rw[show decide ((⟨0,o,[],b1,n,ak,av,pk,pv⟩:Gn)=gz)=Bt ⟨1,o,t,b1,n,ak,av,pk,pv⟩ from Kg false true false false false ⟨1,o,t,b1,n,ak,av,pk,pv⟩] at hG
 rw[H1,show okG ⟨1,o,t,b1,n,ak,av,pk,pv⟩=(Af 22 t) from rfl]
 generalize Bt _=A at hG⊢
 have hV:=Gv 22 t (by omega)
 cases h1:Af 22 t
 ·rw[h1] at hV
  refine acQ 100 Tryz.func47 rfl rfl fun _ _ _=> ?_
  (repeat'((conv=>whnf);first|refine NBr.yes ?_|refine NBr.no ?_|refine NCall.eq hV rfl ?_));(all_goals(conv=>whnf))
  all_goals exact NEnd.eq leQ
 ·rw[h1] at hV
  refine acQ 100 Tryz.func47 rfl rfl fun _ _ _=> ?_
  (repeat'((conv=>whnf);first|refine NBr.yes ?_|refine NBr.no ?_|refine NCall.eq hV rfl ?_|refine NCall.le hG Ew ?_));(all_goals(conv=>whnf))
  all_goals exact NEnd.eq leQ
theorem ER {o t b1:List UInt8} {n:List (List Att)} {ak:Int} {av:List UInt8} {pk:Int} {pv:List UInt8} (hs:(⟨2,o,t,b1,n,ak,av,pk,pv⟩:Gn).zz):Aa Tryz.prog 47 [gnA ⟨2,o,t,b1,n,ak,av,pk,pv⟩] (fun r=>r=bv (gnW ⟨2,o,t,b1,n,ak,av,pk,pv⟩)):=by
 have hG:=C4 ⟨0,o,[],b1,n,ak,av,pk,pv⟩ gz ⟨by have:=hs.b;simp only at this⊢;omega,Kh hs.n⟩ Ki
 obtain⟨s1,s2,s3,s4,s5,s6⟩:=hs
 simp only at s1 s2 s3 s4 s5 s6
 rw[show decide ((⟨0,o,[],b1,n,ak,av,pk,pv⟩:Gn)=gz)=Bt ⟨2,o,t,b1,n,ak,av,pk,pv⟩ from Kg false true false false false ⟨2,o,t,b1,n,ak,av,pk,pv⟩] at hG
 rw[H1,show okG ⟨2,o,t,b1,n,ak,av,pk,pv⟩=(Af 22 t) from rfl]
 generalize Bt _=A at hG⊢
 have hV:=Gv 22 t (by omega)
 cases h1:Af 22 t
 ·rw[h1] at hV
  refine acQ 100 Tryz.func47 rfl rfl fun _ _ _=> ?_
  (repeat'((conv=>whnf);first|refine NBr.yes ?_|refine NBr.no ?_|refine NCall.eq hV rfl ?_));(all_goals(conv=>whnf))
  all_goals exact NEnd.eq leQ
 ·rw[h1] at hV
  refine acQ 100 Tryz.func47 rfl rfl fun _ _ _=> ?_
  (repeat'((conv=>whnf);first|refine NBr.yes ?_|refine NBr.no ?_|refine NCall.eq hV rfl ?_|refine NCall.le hG Ew ?_));(all_goals(conv=>whnf))
  all_goals exact NEnd.eq leQ
theorem ES {o t b1:List UInt8} {n:List (List Att)} {ak:Int} {av:List UInt8} {pk:Int} {pv:List UInt8} (hs:(⟨6,o,t,b1,n,ak,av,pk,pv⟩:Gn).zz):Aa Tryz.prog 47 [gnA ⟨6,o,t,b1,n,ak,av,pk,pv⟩] (fun r=>r=bv (gnW ⟨6,o,t,b1,n,ak,av,pk,pv⟩)):=by
 have hG:=C4 ⟨0,o,[],b1,n,ak,av,pk,pv⟩ gz ⟨by have:=hs.b;simp only at this⊢;omega,Kh hs.n⟩ Ki
 obtain⟨s1,s2,s3,s4,s5,s6⟩:=hs
 simp only at s1 s2 s3 s4 s5 s6
 rw[show decide ((⟨0,o,[],b1,n,ak,av,pk,pv⟩:Gn)=gz)=Bt ⟨6,o,t,b1,n,ak,av,pk,pv⟩ from Kg false true false false false ⟨6,o,t,b1,n,ak,av,pk,pv⟩] at hG
 rw[H1,show okG ⟨6,o,t,b1,n,ak,av,pk,pv⟩=(Af 22 t) from rfl]
 generalize Bt _=A at hG⊢
 have hV:=Gv 22 t (by omega)
 cases h1:Af 22 t
 ·rw[h1] at hV
  refine acQ 100 Tryz.func47 rfl rfl fun _ _ _=> ?_
  (repeat'((conv=>whnf);first|refine NBr.yes ?_|refine NBr.no ?_|refine NCall.eq hV rfl ?_));(all_goals(conv=>whnf))
  all_goals exact NEnd.eq leQ
 ·rw[h1] at hV
  refine acQ 100 Tryz.func47 rfl rfl fun _ _ _=> ?_
  (repeat'((conv=>whnf);first|refine NBr.yes ?_|refine NBr.no ?_|refine NCall.eq hV rfl ?_|refine NCall.le hG Ew ?_));(all_goals(conv=>whnf))
  all_goals exact NEnd.eq leQ
theorem ET {o t b1:List UInt8} {n:List (List Att)} {ak:Int} {av:List UInt8} {pk:Int} {pv:List UInt8} (hs:(⟨3,o,t,b1,n,ak,av,pk,pv⟩:Gn).zz):Aa Tryz.prog 47 [gnA ⟨3,o,t,b1,n,ak,av,pk,pv⟩] (fun r=>r=bv (gnW ⟨3,o,t,b1,n,ak,av,pk,pv⟩)):=by
 have hG:=C4 ⟨0,o,t,[],n,ak,av,pk,pv⟩ gz ⟨by simp,Kh hs.n⟩ Ki
 obtain⟨s1,s2,s3,s4,s5,s6⟩:=hs
 simp only at s1 s2 s3 s4 s5 s6
 rw[show decide ((⟨0,o,t,[],n,ak,av,pk,pv⟩:Gn)=gz)=Bt ⟨3,o,t,b1,n,ak,av,pk,pv⟩ from Kg false false true false false ⟨3,o,t,b1,n,ak,av,pk,pv⟩] at hG
 rw[H1,show okG ⟨3,o,t,b1,n,ak,av,pk,pv⟩=(Dj (Ae 2 3 true b1)) from rfl]
 generalize Bt _=A at hG⊢
 have hP:Aa Tryz.prog 45 [cv 163,.d (Ac false b1)] (fun r=>r=Aq 0 5 (Ae 2 3 true b1)):=Cv 163 b1 (by omega)
 have hl:=Al 2 3 true b1 (by omega)
 have hV:=N2 (Ae 2 3 true b1) (by omega)
 cases h1:Dj (Ae 2 3 true b1)
 ·rw[h1] at hV
  refine acQ 100 Tryz.func47 rfl rfl fun _ _ _=> ?_
  (repeat'((conv=>whnf);first|refine NBr.yes ?_|refine NBr.no ?_|refine NCall.eq hP Ik ?_|refine NCall.eq hV Ik ?_));(all_goals(conv=>whnf))
  all_goals exact NEnd.eq leQ
 ·rw[h1] at hV
  refine acQ 100 Tryz.func47 rfl rfl fun _ _ _=> ?_
  (repeat'((conv=>whnf);first|refine NBr.yes ?_|refine NBr.no ?_|refine NCall.eq hP Ik ?_|refine NCall.eq hV Ik ?_|refine NCall.le hG Ew ?_));(all_goals(conv=>whnf))
  all_goals exact NEnd.eq leQ
theorem EU {o t b1:List UInt8} {n:List (List Att)} {ak:Int} {av:List UInt8} {pk:Int} {pv:List UInt8} (hs:(⟨4,o,t,b1,n,ak,av,pk,pv⟩:Gn).zz):Aa Tryz.prog 47 [gnA ⟨4,o,t,b1,n,ak,av,pk,pv⟩] (fun r=>r=bv (gnW ⟨4,o,t,b1,n,ak,av,pk,pv⟩)):=by
 have hG:=C4 ⟨0,o,t,b1,[],ak,av,pk,pv⟩ gz ⟨by have:=hs.b;simp only at this⊢;omega,by simp[AZ]⟩ Ki
 obtain⟨s1,s2,s3,s4,s5,s6⟩:=hs
 simp only at s1 s2 s3 s4 s5 s6
 rw[show decide ((⟨0,o,t,b1,[],ak,av,pk,pv⟩:Gn)=gz)=Bt ⟨4,o,t,b1,n,ak,av,pk,pv⟩ from Kg false false false true false ⟨4,o,t,b1,n,ak,av,pk,pv⟩] at hG
 rw[H1,show okG ⟨4,o,t,b1,n,ak,av,pk,pv⟩=(nmV n) from rfl]
 generalize Bt _=A at hG⊢
 have hV:=dD n s4
 cases h1:nmV n
 ·rw[h1] at hV
  refine acQ 100 Tryz.func47 rfl rfl fun _ _ _=> ?_
  (repeat'((conv=>whnf);first|refine NBr.yes ?_|refine NBr.no ?_|refine NCall.eq hV Ik ?_));(all_goals(conv=>whnf))
  all_goals exact NEnd.eq leQ
 ·rw[h1] at hV
  refine acQ 100 Tryz.func47 rfl rfl fun _ _ _=> ?_
  (repeat'((conv=>whnf);first|refine NBr.yes ?_|refine NBr.no ?_|refine NCall.eq hV Ik ?_|refine NCall.le hG Ew ?_));(all_goals(conv=>whnf))
  all_goals exact NEnd.eq leQ
theorem EV {o t b1:List UInt8} {n:List (List Att)} {ak:Int} {av:List UInt8} {pk:Int} {pv:List UInt8} (hs:(⟨8,o,t,b1,n,ak,av,pk,pv⟩:Gn).zz):Aa Tryz.prog 47 [gnA ⟨8,o,t,b1,n,ak,av,pk,pv⟩] (fun r=>r=bv (gnW ⟨8,o,t,b1,n,ak,av,pk,pv⟩)):=by
 have hG:=C4 ⟨0,[],t,b1,n,ak,av,pk,pv⟩ gz ⟨by have:=hs.b;simp only at this⊢;omega,Kh hs.n⟩ Ki
 obtain⟨s1,s2,s3,s4,s5,s6⟩:=hs
 simp only at s1 s2 s3 s4 s5 s6
 rw[show decide ((⟨0,[],t,b1,n,ak,av,pk,pv⟩:Gn)=gz)=Bt ⟨8,o,t,b1,n,ak,av,pk,pv⟩ from Kg true false false false false ⟨8,o,t,b1,n,ak,av,pk,pv⟩] at hG
 rw[H1,show okG ⟨8,o,t,b1,n,ak,av,pk,pv⟩=(Dz o) from rfl]
 generalize Bt _=A at hG⊢
 have hV:=Iy o (by omega)
 cases h1:Dz o
 ·rw[h1] at hV
  refine acQ 100 Tryz.func47 rfl rfl fun _ _ _=> ?_
  (repeat'((conv=>whnf);first|refine NBr.yes ?_|refine NBr.no ?_|refine NCall.eq hV rfl ?_));(all_goals(conv=>whnf))
  all_goals exact NEnd.eq leQ
 ·rw[h1] at hV
  refine acQ 100 Tryz.func47 rfl rfl fun _ _ _=> ?_
  (repeat'((conv=>whnf);first|refine NBr.yes ?_|refine NBr.no ?_|refine NCall.eq hV rfl ?_|refine NCall.le hG Ew ?_));(all_goals(conv=>whnf))
  all_goals exact NEnd.eq leQ
theorem EW {o t b1:List UInt8} {n:List (List Att)} {ak:Int} {av:List UInt8} {pk:Int} {pv:List UInt8} (hs:(⟨5,o,t,b1,n,ak,av,pk,pv⟩:Gn).zz):Aa Tryz.prog 47 [gnA ⟨5,o,t,b1,n,ak,av,pk,pv⟩] (fun r=>r=bv (gnW ⟨5,o,t,b1,n,ak,av,pk,pv⟩)):=by
 have hG:=C4 ⟨0,o,t,b1,n,0,[],0,[]⟩ gz ⟨by have:=hs.b;simp only at this⊢;omega,Kh hs.n⟩ Ki
 obtain⟨s1,s2,s3,s4,s5,s6⟩:=hs
 simp only at s1 s2 s3 s4 s5 s6
 rw[show decide ((⟨0,o,t,b1,n,0,[],0,[]⟩:Gn)=gz)=Bt ⟨5,o,t,b1,n,ak,av,pk,pv⟩ from Kg false false false false true ⟨5,o,t,b1,n,ak,av,pk,pv⟩] at hG
 rw[H1,show okG ⟨5,o,t,b1,n,ak,av,pk,pv⟩=((zT ak av||fiB ak av)&&fiB pk pv) from rfl]
 generalize Bt _=A at hG⊢
 have hV:=W8 ak av (by omega)
 have hQ:=W8 pk pv (by omega)
 have hz:zT ak av=(ak==0&&av==[]):=rfl
 cases h1:zT ak av
 ·rw[h1] at hz
  have hz:=hz.symm
  cases h2:fiB ak av
  ·rw[h2] at hV
   refine acQ 100 Tryz.func47 rfl rfl fun _ _ _=> ?_
   (repeat'((conv=>whnf);first|refine NBr.neg asQ ?_|refine NBr.yes ?_|refine NBr.no ?_|refine NStep.go (C5 rfl rfl (ltN rfl) rfl rfl) ?_|refine NCall.eq hV rfl ?_));(all_goals(conv=>whnf))
   all_goals exact NEnd.eq leQ
  ·rw[h2] at hV
   cases h3:fiB pk pv
   ·rw[h3] at hQ
    refine acQ 100 Tryz.func47 rfl rfl fun _ _ _=> ?_
    (repeat'((conv=>whnf);first|refine NBr.neg asQ ?_|refine NBr.yes ?_|refine NBr.no ?_|refine NStep.go (C5 rfl rfl (ltN rfl) rfl rfl) ?_|refine NCall.eq hV rfl ?_|refine NCall.eq hQ rfl ?_));(all_goals(conv=>whnf))
    all_goals exact NEnd.eq leQ
   ·rw[h3] at hQ
    refine acQ 100 Tryz.func47 rfl rfl fun _ _ _=> ?_
    (repeat'((conv=>whnf);first|refine NBr.neg asQ ?_|refine NBr.yes ?_|refine NBr.no ?_|refine NStep.go (C5 rfl rfl (ltN rfl) rfl rfl) ?_|refine NCall.eq hV rfl ?_|refine NCall.eq hQ rfl ?_|refine NCall.le hG Ew ?_));(all_goals(conv=>whnf))
    all_goals exact NEnd.eq leQ
 ·rw[h1] at hz
  have hz:=hz.symm
  cases h3:fiB pk pv
  ·rw[h3] at hQ
   refine acQ 100 Tryz.func47 rfl rfl fun _ _ _=> ?_
   (repeat'((conv=>whnf);first|refine NBr.pos asQ ?_|refine NBr.yes ?_|refine NBr.no ?_|refine NStep.go (C5 rfl rfl (ltN rfl) rfl rfl) ?_|refine NCall.eq hQ rfl ?_));(all_goals(conv=>whnf))
   all_goals exact NEnd.eq leQ
  ·rw[h3] at hQ
   refine acQ 100 Tryz.func47 rfl rfl fun _ _ _=> ?_
   (repeat'((conv=>whnf);first|refine NBr.pos asQ ?_|refine NBr.yes ?_|refine NBr.no ?_|refine NStep.go (C5 rfl rfl (ltN rfl) rfl rfl) ?_|refine NCall.eq hQ rfl ?_|refine NCall.le hG Ew ?_));(all_goals(conv=>whnf))
   all_goals exact NEnd.eq leQ
theorem EX {o t b1:List UInt8} {n:List (List Att)} {ak:Int} {av:List UInt8} {pk:Int} {pv:List UInt8} (hs:(⟨7,o,t,b1,n,ak,av,pk,pv⟩:Gn).zz):Aa Tryz.prog 47 [gnA ⟨7,o,t,b1,n,ak,av,pk,pv⟩] (fun r=>r=bv (gnW ⟨7,o,t,b1,n,ak,av,pk,pv⟩)):=by
 have hG:=C4 ⟨0,o,t,[],n,ak,av,pk,pv⟩ gz ⟨by simp,Kh hs.n⟩ Ki
 obtain⟨s1,s2,s3,s4,s5,s6⟩:=hs
 simp only at s1 s2 s3 s4 s5 s6
 rw[show decide ((⟨0,o,t,[],n,ak,av,pk,pv⟩:Gn)=gz)=Bt ⟨7,o,t,b1,n,ak,av,pk,pv⟩ from Kg false false true false false ⟨7,o,t,b1,n,ak,av,pk,pv⟩] at hG
 rw[H1,show okG ⟨7,o,t,b1,n,ak,av,pk,pv⟩=(ip b1.length) from rfl]
 generalize Bt _=A at hG⊢
 have e:ip b1.length=(((b1.length:Int)==4)||(((b1.length:Int)==8)||(((b1.length:Int)==16)||((b1.length:Int)==32)))):=by
  unfold ip;rw[Bool.eq_iff_iff];simp;omega
 rw[e]
 cases h1:((b1.length:Int)==4)
 ·cases h2:((b1.length:Int)==8)
  ·cases h3:((b1.length:Int)==16)
   ·cases h4:((b1.length:Int)==32)
    ·refine acQ 100 Tryz.func47 rfl rfl fun _ _ _=> ?_
     (repeat'((conv=>whnf);first|refine NBr.neg asQ ?_|refine NBr.yes ?_|refine NBr.no ?_));(all_goals(conv=>whnf))
     all_goals exact NEnd.eq leQ
    ·refine acQ 100 Tryz.func47 rfl rfl fun _ _ _=> ?_
     (repeat'((conv=>whnf);first|refine NBr.pos asQ ?_|refine NBr.neg asQ ?_|refine NBr.yes ?_|refine NBr.no ?_|refine NCall.le hG Ew ?_));(all_goals(conv=>whnf))
     all_goals exact NEnd.eq leQ
   ·refine acQ 100 Tryz.func47 rfl rfl fun _ _ _=> ?_
    (repeat'((conv=>whnf);first|refine NBr.pos asQ ?_|refine NBr.neg asQ ?_|refine NBr.yes ?_|refine NBr.no ?_|refine NCall.le hG Ew ?_));(all_goals(conv=>whnf))
    all_goals exact NEnd.eq leQ
  ·refine acQ 100 Tryz.func47 rfl rfl fun _ _ _=> ?_
   (repeat'((conv=>whnf);first|refine NBr.pos asQ ?_|refine NBr.neg asQ ?_|refine NBr.yes ?_|refine NBr.no ?_|refine NCall.le hG Ew ?_));(all_goals(conv=>whnf))
   all_goals exact NEnd.eq leQ
 ·refine acQ 100 Tryz.func47 rfl rfl fun _ _ _=> ?_
  (repeat'((conv=>whnf);first|refine NBr.pos asQ ?_|refine NBr.yes ?_|refine NBr.no ?_|refine NCall.le hG Ew ?_));(all_goals(conv=>whnf))
  all_goals exact NEnd.eq leQ
theorem Eo (g:Gn) (hs:g.zz):Aa Tryz.prog 47 [gnA g] (fun r=>r=bv (gnW g)):=by
 by_cases hk:0≤g.k∧g.k≤8
 ·obtain⟨k,o,t,b1,n,ak,av,pk,pv⟩:=g
  simp only at hk
  rcases(by omega:k=0∨k=1∨k=2∨k=3∨k=4∨k=5∨k=6∨k=7∨k=8) with rfl|rfl|rfl|rfl|rfl|rfl|rfl|rfl|rfl
  ·exact EP hs
  ·exact EQ hs
  ·exact ER hs
  ·exact ET hs
  ·exact EU hs
  ·exact EW hs
  ·exact ES hs
  ·exact EX hs
  ·exact EV hs
 ·have e:gnW g=false:=by
   rw[H1,show okG g=false from ?_,Bool.false_and]
   unfold okG
   rw[if_neg (by omega),if_neg (by omega),if_neg (by omega),if_neg (by omega),if_neg (by omega),if_neg (by omega),if_neg (by omega)]
  rw[e]
  obtain⟨k,o,t,b1,n,ak,av,pk,pv⟩:=g
  simp only at hk
  have g0:(k==0)=false:=beq_eq_false_iff_ne.2 (by omega)
  have g1:(k==1)=false:=beq_eq_false_iff_ne.2 (by omega)
  have g2:(k==2)=false:=beq_eq_false_iff_ne.2 (by omega)
  have g3:(k==3)=false:=beq_eq_false_iff_ne.2 (by omega)
  have g4:(k==4)=false:=beq_eq_false_iff_ne.2 (by omega)
  have g5:(k==5)=false:=beq_eq_false_iff_ne.2 (by omega)
  have g6:(k==6)=false:=beq_eq_false_iff_ne.2 (by omega)
  have g7:(k==7)=false:=beq_eq_false_iff_ne.2 (by omega)
  have g8:(k==8)=false:=beq_eq_false_iff_ne.2 (by omega)
  refine acQ 100 Tryz.func47 rfl rfl fun _ _ _=> ?_
  (repeat'((conv=>whnf);first|refine NBr.neg asQ ?_|refine NBr.no ?_));(all_goals(conv=>whnf))
  all_goals exact NEnd.eq leQ
theorem Gq {g:Gn} (h:gnW g=true):okG g=true:=by rw[H1] at h;simp at h;exact h.1
theorem wI {k:Int} {l:List UInt8} (h:fiB k l=true):0<k:=by
 have hv:=G7 h
 have hk:¬Ag k<0:=by unfold Af at hv;simp at hv;omega
 rcases Cn k hk with rfl|rfl|rfl|rfl|rfl|rfl|rfl<;>omega
theorem wJ {k:Int} {l:List UInt8} (h:fiB k l=true) (hl:l.length≤3000000):Aa Tryz.prog 69 [txA k l] (fun r=>r= .tup [Aq 0 5 (txE k l),iv 0]):=by
 have:=wB k l (by omega)
 unfold frS at this
 rw[if_pos (G7 h)] at this
 exact this
theorem Bq {p:Prop} (h:p:=by first|rfl|(simp only[AV.gives,AV.ren,AV.give,D.un,D.uns,Ah,Ai,List.nil_append,List.append_nil,List.cons_append,Am,Av,Bv,A1,As,Bp,Bx,Cz,By,Ce,Br];first|done|rfl)):p:=h
theorem EY {o t b1:List UInt8} {n:List (List Att)} {ak:Int} {av:List UInt8} {pk:Int} {pv:List UInt8} (hs:(⟨0,o,t,b1,n,ak,av,pk,pv⟩:Gn).zz) (hw:gnW ⟨0,o,t,b1,n,ak,av,pk,pv⟩=true):Aa Tryz.prog 44 [gnA ⟨0,o,t,b1,n,ak,av,pk,pv⟩] (fun r=>r= .tup [Aq 0 5 (gnE ⟨0,o,t,b1,n,ak,av,pk,pv⟩),iv 0]):=by
 have hV:=Eo _ hs
 rw[hw] at hV
 have hok:=Gq hw
 clear hw
 obtain⟨s1,s2,s3,s4,s5,s6⟩:=hs
 simp only at s1 s2 s3 s4 s5 s6
 have hok:(Dz o&&Dj b1)=true:=hok
 rw[Bool.and_eq_true] at hok
 have hE:gnE ⟨0,o,t,b1,n,ak,av,pk,pv⟩=Ae 2 0 true (Ae 0 6 false (Au o)++Ae 2 0 true b1):=by
  unfold gnE;rw[show Dm ⟨0,o,t,b1,n,ak,av,pk,pv⟩=some (Ae 0 6 false (Au o)++Ae 2 0 true b1) from if_pos hok.1];rfl
 rw[hE]
 have k1:=D5 o
 have k2:=Al 0 6 false (Au o) (by omega)
 have k3:=Al 2 0 true b1 (by omega)
 have hO:=Uo o (by omega)
 have hP:Aa Tryz.prog 45 [cv 160,.d (Ac false b1)] (fun r=>r=Aq 0 5 (Ae 2 0 true b1)):=Cv 160 b1 (by omega)
 have hQ:Aa Tryz.prog 25 [cv 160,.d (Cs [Qe o,Ae 2 0 true b1])] (fun r=>r=Aq 0 5 (Ae 2 0 true (Ae 0 6 false (Au o)++Ae 2 0 true b1))):=by
  have:=Fi 160 [Qe o,Ae 2 0 true b1] (by simp) (by simp[Qe];omega)
  rw[show [Qe o,Ae 2 0 true b1].flatten=Ae 0 6 false (Au o)++Ae 2 0 true b1 by simp[Qe]] at this
  exact this
 generalize Ae 2 0 true (Ae 0 6 false (Au o)++Ae 2 0 true b1)=E at hQ⊢
 generalize Ae 2 0 true b1=e1 at hP hQ
 generalize Qe o=e2 at hO hQ
 clear hE hok
 refine acQ 106 Tryz.func44 rfl rfl fun _ _ _=> ?_
 (repeat'((conv=>whnf);first|refine NBr.yes ?_|refine NBr.no ?_|refine NCall.eq hV Bq ?_|refine NCall.eq hO rfl ?_|refine NCall.eq hP Bq ?_|refine NCall.eq hQ Bq ?_|(with_reducible refine NInt.i64 ?_)|(with_reducible refine NInt.u8 ?_)|refine NFact.go ⟨by decide+kernel,by kernel_rfl⟩ ?_));(all_goals(conv=>whnf))
 all_goals exact NEnd.eq leQ
theorem EZ {o t b1:List UInt8} {n:List (List Att)} {ak:Int} {av:List UInt8} {pk:Int} {pv:List UInt8} (hs:(⟨1,o,t,b1,n,ak,av,pk,pv⟩:Gn).zz) (hw:gnW ⟨1,o,t,b1,n,ak,av,pk,pv⟩=true):Aa Tryz.prog 44 [gnA ⟨1,o,t,b1,n,ak,av,pk,pv⟩] (fun r=>r= .tup [Aq 0 5 (gnE ⟨1,o,t,b1,n,ak,av,pk,pv⟩),iv 0]):=by
 have hV:=Eo _ hs
 rw[hw] at hV
 have hok:=Gq hw
 clear hw
 obtain⟨s1,s2,s3,s4,s5,s6⟩:=hs
 simp only at s1 s2 s3 s4 s5 s6
 have hok:Af 22 t=true:=hok
 have hE:gnE ⟨1,o,t,b1,n,ak,av,pk,pv⟩=Ae 2 1 false (chS 22 t):=by
  unfold gnE;rw[show Dm ⟨1,o,t,b1,n,ak,av,pk,pv⟩=some (chS 22 t) from if_pos hok];rfl
 rw[hE]
 have hC:=F1 22 t (by omega)
 rw[show Dl 22 t=chS 22 t by unfold Dl;rw[hok];rfl] at hC
 have h4:=Fk hok
 have hP:Aa Tryz.prog 45 [cv 129,.d (Ac false (chS 22 t))] (fun r=>r=Aq 0 5 (Ae 2 1 false (chS 22 t))):=Cv 129 (chS 22 t) (by omega)
 generalize Ae 2 1 false (chS 22 t)=E at hP⊢
 generalize chS 22 t=c at hC hP
 clear hE hok h4
 refine acQ 106 Tryz.func44 rfl rfl fun _ _ _=> ?_
 (repeat'((conv=>whnf);first|refine NBr.no ?_|refine NCall.eq hV Bq ?_|refine NCall.eq hC rfl ?_|refine NCall.eq hP Bq ?_|(with_reducible refine NInt.i64 ?_)|(with_reducible refine NInt.u8 ?_)));(all_goals(conv=>whnf))
 all_goals exact NEnd.eq leQ
theorem FA {o t b1:List UInt8} {n:List (List Att)} {ak:Int} {av:List UInt8} {pk:Int} {pv:List UInt8} (hs:(⟨2,o,t,b1,n,ak,av,pk,pv⟩:Gn).zz) (hw:gnW ⟨2,o,t,b1,n,ak,av,pk,pv⟩=true):Aa Tryz.prog 44 [gnA ⟨2,o,t,b1,n,ak,av,pk,pv⟩] (fun r=>r= .tup [Aq 0 5 (gnE ⟨2,o,t,b1,n,ak,av,pk,pv⟩),iv 0]):=by
 have hV:=Eo _ hs
 rw[hw] at hV
 have hok:=Gq hw
 clear hw
 obtain⟨s1,s2,s3,s4,s5,s6⟩:=hs
 simp only at s1 s2 s3 s4 s5 s6
 have hok:Af 22 t=true:=hok
 have hE:gnE ⟨2,o,t,b1,n,ak,av,pk,pv⟩=Ae 2 2 false (chS 22 t):=by
  unfold gnE;rw[show Dm ⟨2,o,t,b1,n,ak,av,pk,pv⟩=some (chS 22 t) from if_pos hok];rfl
 rw[hE]
 have hC:=F1 22 t (by omega)
 rw[show Dl 22 t=chS 22 t by unfold Dl;rw[hok];rfl] at hC
 have h4:=Fk hok
 have hP:Aa Tryz.prog 45 [cv 130,.d (Ac false (chS 22 t))] (fun r=>r=Aq 0 5 (Ae 2 2 false (chS 22 t))):=Cv 130 (chS 22 t) (by omega)
 generalize Ae 2 2 false (chS 22 t)=E at hP⊢
 generalize chS 22 t=c at hC hP
 clear hE hok h4
 refine acQ 106 Tryz.func44 rfl rfl fun _ _ _=> ?_
 (repeat'((conv=>whnf);first|refine NBr.no ?_|refine NCall.eq hV Bq ?_|refine NCall.eq hC rfl ?_|refine NCall.eq hP Bq ?_|(with_reducible refine NInt.i64 ?_)|(with_reducible refine NInt.u8 ?_)));(all_goals(conv=>whnf))
 all_goals exact NEnd.eq leQ
theorem FB {o t b1:List UInt8} {n:List (List Att)} {ak:Int} {av:List UInt8} {pk:Int} {pv:List UInt8} (hs:(⟨6,o,t,b1,n,ak,av,pk,pv⟩:Gn).zz) (hw:gnW ⟨6,o,t,b1,n,ak,av,pk,pv⟩=true):Aa Tryz.prog 44 [gnA ⟨6,o,t,b1,n,ak,av,pk,pv⟩] (fun r=>r= .tup [Aq 0 5 (gnE ⟨6,o,t,b1,n,ak,av,pk,pv⟩),iv 0]):=by
 have hV:=Eo _ hs
 rw[hw] at hV
 have hok:=Gq hw
 clear hw
 obtain⟨s1,s2,s3,s4,s5,s6⟩:=hs
 simp only at s1 s2 s3 s4 s5 s6
 have hok:Af 22 t=true:=hok
 have hE:gnE ⟨6,o,t,b1,n,ak,av,pk,pv⟩=Ae 2 6 false (chS 22 t):=by
  unfold gnE;rw[show Dm ⟨6,o,t,b1,n,ak,av,pk,pv⟩=some (chS 22 t) from if_pos hok];rfl
 rw[hE]
 have hC:=F1 22 t (by omega)
 rw[show Dl 22 t=chS 22 t by unfold Dl;rw[hok];rfl] at hC
 have h4:=Fk hok
 have hP:Aa Tryz.prog 45 [cv 134,.d (Ac false (chS 22 t))] (fun r=>r=Aq 0 5 (Ae 2 6 false (chS 22 t))):=Cv 134 (chS 22 t) (by omega)
 generalize Ae 2 6 false (chS 22 t)=E at hP⊢
 generalize chS 22 t=c at hC hP
 clear hE hok h4
 refine acQ 106 Tryz.func44 rfl rfl fun _ _ _=> ?_
 (repeat'((conv=>whnf);first|refine NBr.no ?_|refine NCall.eq hV Bq ?_|refine NCall.eq hC rfl ?_|refine NCall.eq hP Bq ?_|(with_reducible refine NInt.i64 ?_)|(with_reducible refine NInt.u8 ?_)));(all_goals(conv=>whnf))
 all_goals exact NEnd.eq leQ
theorem FC {o t b1:List UInt8} {n:List (List Att)} {ak:Int} {av:List UInt8} {pk:Int} {pv:List UInt8} (hs:(⟨3,o,t,b1,n,ak,av,pk,pv⟩:Gn).zz) (hw:gnW ⟨3,o,t,b1,n,ak,av,pk,pv⟩=true):Aa Tryz.prog 44 [gnA ⟨3,o,t,b1,n,ak,av,pk,pv⟩] (fun r=>r= .tup [Aq 0 5 (gnE ⟨3,o,t,b1,n,ak,av,pk,pv⟩),iv 0]):=by
 have hV:=Eo _ hs
 rw[hw] at hV
 have hok:=Gq hw
 clear hw
 obtain⟨s1,s2,s3,s4,s5,s6⟩:=hs
 simp only at s1 s2 s3 s4 s5 s6
 clear hok
 have hE:gnE ⟨3,o,t,b1,n,ak,av,pk,pv⟩=Ae 2 3 true (b1):=by
  unfold gnE;rw[show Dm ⟨3,o,t,b1,n,ak,av,pk,pv⟩=some (b1) from rfl];rfl
 rw[hE]
 have hP:Aa Tryz.prog 45 [cv 163,.d (Ac false b1)] (fun r=>r=Aq 0 5 (Ae 2 3 true b1)):=Cv 163 b1 (by omega)
 generalize Ae 2 3 true b1=E at hP⊢
 clear hE
 refine acQ 106 Tryz.func44 rfl rfl fun _ _ _=> ?_
 (repeat'((conv=>whnf);first|refine NBr.yes ?_|refine NBr.no ?_|refine NCall.eq hV Bq ?_|refine NCall.eq hP Bq ?_|(with_reducible refine NInt.i64 ?_)|(with_reducible refine NInt.u8 ?_)));(all_goals(conv=>whnf))
 all_goals exact NEnd.eq leQ
theorem FD {o t b1:List UInt8} {n:List (List Att)} {ak:Int} {av:List UInt8} {pk:Int} {pv:List UInt8} (hs:(⟨7,o,t,b1,n,ak,av,pk,pv⟩:Gn).zz) (hw:gnW ⟨7,o,t,b1,n,ak,av,pk,pv⟩=true):Aa Tryz.prog 44 [gnA ⟨7,o,t,b1,n,ak,av,pk,pv⟩] (fun r=>r= .tup [Aq 0 5 (gnE ⟨7,o,t,b1,n,ak,av,pk,pv⟩),iv 0]):=by
 have hV:=Eo _ hs
 rw[hw] at hV
 have hok:=Gq hw
 clear hw
 obtain⟨s1,s2,s3,s4,s5,s6⟩:=hs
 simp only at s1 s2 s3 s4 s5 s6
 clear hok
 have hE:gnE ⟨7,o,t,b1,n,ak,av,pk,pv⟩=Ae 2 7 false (b1):=by
  unfold gnE;rw[show Dm ⟨7,o,t,b1,n,ak,av,pk,pv⟩=some (b1) from rfl];rfl
 rw[hE]
 have hP:Aa Tryz.prog 45 [cv 135,.d (Ac false b1)] (fun r=>r=Aq 0 5 (Ae 2 7 false b1)):=Cv 135 b1 (by omega)
 generalize Ae 2 7 false b1=E at hP⊢
 clear hE
 refine acQ 106 Tryz.func44 rfl rfl fun _ _ _=> ?_
 (repeat'((conv=>whnf);first|refine NBr.yes ?_|refine NBr.no ?_|refine NCall.eq hV Bq ?_|refine NCall.eq hP Bq ?_|(with_reducible refine NInt.i64 ?_)|(with_reducible refine NInt.u8 ?_)));(all_goals(conv=>whnf))
 all_goals exact NEnd.eq leQ
theorem FE {o t b1:List UInt8} {n:List (List Att)} {ak:Int} {av:List UInt8} {pk:Int} {pv:List UInt8} (hs:(⟨4,o,t,b1,n,ak,av,pk,pv⟩:Gn).zz) (hw:gnW ⟨4,o,t,b1,n,ak,av,pk,pv⟩=true):Aa Tryz.prog 44 [gnA ⟨4,o,t,b1,n,ak,av,pk,pv⟩] (fun r=>r= .tup [Aq 0 5 (gnE ⟨4,o,t,b1,n,ak,av,pk,pv⟩),iv 0]):=by
 have hV:=Eo _ hs
 rw[hw] at hV
 have hok:=Gq hw
 clear hw
 obtain⟨s1,s2,s3,s4,s5,s6⟩:=hs
 simp only at s1 s2 s3 s4 s5 s6
 have hok:nmV n=true:=hok
 have hE:gnE ⟨4,o,t,b1,n,ak,av,pk,pv⟩=Ae 2 4 true (nmE n):=by
  unfold gnE;rw[show Dm ⟨4,o,t,b1,n,ak,av,pk,pv⟩=some (nmE n) from if_pos hok];rfl
 rw[hE]
 have hM:=wC n s4
 rw[if_pos hok] at hM
 have k1:=Al 0 16 true ((n.map Bw).flatten) (by have:=s4.e;omega)
 have k2:(nmE n).length≤90000006:=by have:=s4.e;unfold nmE;omega
 have hP:Aa Tryz.prog 45 [cv 164,.d (Ac false (nmE n))] (fun r=>r=Aq 0 5 (Ae 2 4 true (nmE n))):=Cv 164 (nmE n) (by omega)
 generalize Ae 2 4 true (nmE n)=E at hP⊢
 generalize nmE n=c at hM hP
 clear hE hok k1 k2
 refine acQ 106 Tryz.func44 rfl rfl fun _ _ _=> ?_
 (repeat'((conv=>whnf);first|refine NBr.yes ?_|refine NBr.no ?_|refine NCall.eq hV Bq ?_|refine NCall.eq hM Bq ?_|refine NCall.eq hP Bq ?_|(with_reducible refine NInt.i64 ?_)|(with_reducible refine NInt.u8 ?_)));(all_goals(conv=>whnf))
 all_goals exact NEnd.eq leQ
theorem FF {o t b1:List UInt8} {n:List (List Att)} {ak:Int} {av:List UInt8} {pk:Int} {pv:List UInt8} (hs:(⟨8,o,t,b1,n,ak,av,pk,pv⟩:Gn).zz) (hw:gnW ⟨8,o,t,b1,n,ak,av,pk,pv⟩=true):Aa Tryz.prog 44 [gnA ⟨8,o,t,b1,n,ak,av,pk,pv⟩] (fun r=>r= .tup [Aq 0 5 (gnE ⟨8,o,t,b1,n,ak,av,pk,pv⟩),iv 0]):=by
 have hV:=Eo _ hs
 rw[hw] at hV
 have hok:=Gq hw
 clear hw
 obtain⟨s1,s2,s3,s4,s5,s6⟩:=hs
 simp only at s1 s2 s3 s4 s5 s6
 have hok:Dz o=true:=hok
 have hE:gnE ⟨8,o,t,b1,n,ak,av,pk,pv⟩=Ae 2 8 false (Au o):=by
  unfold gnE;rw[show Dm ⟨8,o,t,b1,n,ak,av,pk,pv⟩=some (Au o) from if_pos hok];rfl
 rw[hE]
 have hC:=Lm o (by omega)
 have k1:=D5 o
 have hP:Aa Tryz.prog 45 [cv 136,.d (Ac false (Au o))] (fun r=>r=Aq 0 5 (Ae 2 8 false (Au o))):=Cv 136 (Au o) (by omega)
 generalize Ae 2 8 false (Au o)=E at hP⊢
 generalize Au o=c at hC hP
 clear hE hok k1
 refine acQ 106 Tryz.func44 rfl rfl fun _ _ _=> ?_
 (repeat'((conv=>whnf);first|refine NBr.yes ?_|refine NBr.no ?_|refine NCall.eq hV Bq ?_|refine NCall.eq hC rfl ?_|refine NCall.eq hP Bq ?_|(with_reducible refine NInt.i64 ?_)|(with_reducible refine NInt.u8 ?_)));(all_goals(conv=>whnf))
 all_goals exact NEnd.eq leQ
theorem FG {o t b1:List UInt8} {n:List (List Att)} {ak:Int} {av:List UInt8} {pk:Int} {pv:List UInt8} (hs:(⟨5,o,t,b1,n,ak,av,pk,pv⟩:Gn).zz) (hw:gnW ⟨5,o,t,b1,n,ak,av,pk,pv⟩=true):Aa Tryz.prog 44 [gnA ⟨5,o,t,b1,n,ak,av,pk,pv⟩] (fun r=>r= .tup [Aq 0 5 (gnE ⟨5,o,t,b1,n,ak,av,pk,pv⟩),iv 0]):=by
 have hV:=Eo _ hs
 rw[hw] at hV
 have hok:=Gq hw
 clear hw
 obtain⟨s1,s2,s3,s4,s5,s6⟩:=hs
 simp only at s1 s2 s3 s4 s5 s6
 have hok:((zT ak av||fiB ak av)&&fiB pk pv)=true:=hok
 rw[Bool.and_eq_true] at hok
 obtain⟨h1,h2⟩:=hok
 have hF:=wJ h2 s6
 have l2:=Fb (G7 h2) s6
 have x2:=Al 2 1 true (txE pk pv) (by omega)
 have hP1:Aa Tryz.prog 45 [cv 161,.d (Ac false (txE pk pv))] (fun r=>r=Aq 0 5 (Ae 2 1 true (txE pk pv))):=Cv 161 (txE pk pv) (by omega)
 cases hz:zT ak av
 ·rw[hz,Bool.false_or] at h1
  have hG:=wJ h1 s5
  have l1:=Fb (G7 h1) s5
  have x1:=Al 2 0 true (txE ak av) (by omega)
  have hP0:Aa Tryz.prog 45 [cv 160,.d (Ac false (txE ak av))] (fun r=>r=Aq 0 5 (Ae 2 0 true (txE ak av))):=Cv 160 (txE ak av) (by omega)
  have hE:gnE ⟨5,o,t,b1,n,ak,av,pk,pv⟩=Iu 165 [Ae 2 0 true (txE ak av),Ae 2 1 true (txE pk pv)].flatten:=by
   unfold gnE
   rw[show Dm ⟨5,o,t,b1,n,ak,av,pk,pv⟩=Lv ⟨5,o,t,b1,n,ak,av,pk,pv⟩ from rfl]
   unfold Lv
   simp only
   rw[hz,G7 h1,G7 h2]
   show Ae 2 5 true (Ae 2 0 true (txE ak av)++Ae 2 1 true (txE pk pv))=_
   simp only[List.flatten_cons,List.flatten_nil,List.append_nil]
   rfl
  have hQ:=Fi 165 [Ae 2 0 true (txE ak av),Ae 2 1 true (txE pk pv)] (by simp) (by simp;omega)
  rw[←hE] at hQ
  have hQ:Aa Tryz.prog 25 [cv 165,.d (Cs [Ae 2 0 true (txE ak av),Ae 2 1 true (txE pk pv)])] _:=hQ
  generalize gnE _=E at hQ⊢
  have g0:decide ((ak:Int)>0)=true:=decide_eq_true (wI h1)
  generalize Ae 2 0 true (txE ak av)=e0 at hP0 hQ x1
  generalize Ae 2 1 true (txE pk pv)=e1 at hP1 hQ x2
  generalize txE ak av=t0 at hG hP0 l1
  generalize txE pk pv=t1 at hF hP1 l2
  clear hE hz h1 h2
  refine acQ 106 Tryz.func44 rfl rfl fun _ _ _=> ?_
  (repeat'((conv=>whnf);first|refine NBr.pos asQ ?_|refine NBr.yes ?_|refine NBr.no ?_|refine NCall.eq hV Bq ?_|refine NCall.eq hG rfl ?_|refine NCall.eq hP0 Bq ?_|refine NCall.eq hF rfl ?_|refine NCall.eq hP1 Bq ?_|refine NApp.one0 Dk e0 ?_|refine NApp.one Dk e1 ?_|refine NCall.eq hQ Bq ?_|(with_reducible refine NInt.i64 ?_)|(with_reducible refine NInt.u8 ?_)));(all_goals(conv=>whnf))
  all_goals exact NEnd.eq leQ
 ·obtain⟨rfl,rfl⟩:=Qj.1 hz
  have hE:gnE ⟨5,o,t,b1,n,0,[],pk,pv⟩=Iu 165 [Ae 2 1 true (txE pk pv)].flatten:=by
   unfold gnE
   rw[show Dm ⟨5,o,t,b1,n,0,[],pk,pv⟩=Lv ⟨5,o,t,b1,n,0,[],pk,pv⟩ from rfl]
   unfold Lv
   simp only
   rw[hz,G7 h2]
   show Ae 2 5 true ([]++Ae 2 1 true (txE pk pv))=_
   simp only[List.flatten_cons,List.flatten_nil,List.append_nil,List.nil_append]
   rfl
  have hQ:=Fi 165 [Ae 2 1 true (txE pk pv)] (by simp) (by simp;omega)
  rw[←hE] at hQ
  have hQ:Aa Tryz.prog 25 [cv 165,.d (Cs [Ae 2 1 true (txE pk pv)])] _:=hQ
  generalize gnE _=E at hQ⊢
  generalize Ae 2 1 true (txE pk pv)=e1 at hP1 hQ x2
  generalize txE pk pv=t1 at hF hP1 l2
  clear hE hz h1 h2
  refine acQ 106 Tryz.func44 rfl rfl fun _ _ _=> ?_
  (repeat'((conv=>whnf);first|refine NBr.yes ?_|refine NBr.no ?_|refine NCall.eq hV Bq ?_|refine NCall.eq hF rfl ?_|refine NCall.eq hP1 Bq ?_|refine NApp.one0 Dk e1 ?_|refine NCall.eq hQ Bq ?_|(with_reducible refine NInt.i64 ?_)|(with_reducible refine NInt.u8 ?_)));(all_goals(conv=>whnf))
  all_goals exact NEnd.eq leQ
theorem wK {g:Gn} (h:gnW g=true):g.k=0∨g.k=1∨g.k=2∨g.k=3∨g.k=4∨g.k=5∨g.k=6∨g.k=7∨g.k=8:=by
 have hok:=Gq h
 by_cases hk:g.k=0∨g.k=1∨g.k=2∨g.k=3∨g.k=4∨g.k=5∨g.k=6∨g.k=7∨g.k=8
 ·exact hk
 ·unfold okG at hok
  rw[if_neg (by omega),if_neg (by omega),if_neg (by omega),if_neg (by omega),if_neg (by omega),if_neg (by omega),if_neg (by omega)] at hok
  cases hok
theorem wL (g:Gn) (hs:g.zz):Aa Tryz.prog 44 [gnA g] (fun r=>r=Qh (gnW g) (gnE g)):=by
 cases hw:gnW g
 ·have hV:=Eo g hs
  rw[hw] at hV
  clear hw
  refine acQ 106 Tryz.func44 rfl rfl fun _ _ _=> ?_
  (repeat'((conv=>whnf);first|refine NBr.yes ?_|refine NCall.eq hV Bq ?_));(all_goals(conv=>whnf))
  all_goals exact NEnd.eq leQ
 ·show Aa Tryz.prog 44 [gnA g] (fun r=>r= .tup [Aq 0 5 (gnE g),iv 0])
  have hk:=wK hw
  obtain⟨k,o,t,b1,n,ak,av,pk,pv⟩:=g
  simp only at hk
  rcases hk with rfl|rfl|rfl|rfl|rfl|rfl|rfl|rfl|rfl
  ·exact EY hs hw
  ·exact EZ hs hw
  ·exact FA hs hw
  ·exact FC hs hw
  ·exact FE hs hw
  ·exact FG hs hw
  ·exact FB hs hw
  ·exact FD hs hw
  ·exact FF hs hw
abbrev gnF (g:Gn):AV:= .agg [iv g.k,.d (sD g.oid),.d (sD g.tx),.d (Ac false g.by'),.d (Ng g.nm),iv g.ak,.d (sD g.av),iv g.pk,.d (sD g.pv)]
structure insOk (t:Tr):Prop where
 l:t.ks.length≤100000
 k:∀k∈t.ks,k.ok
 e:(Tr.encs t.ks).length≤800000000
theorem Cc {p:Prop} (h:p:=by first|rfl|(simp only[AV.gives,AV.ren,AV.give,D.un,D.uns,Ah,Ai,List.nil_append,List.append_nil,List.cons_append,Am,Av,Bv,A1,As,Bp,Bx,Cz,By,Ce,Br,Tr.cellss_un];first|done|rfl)):p:=h
theorem dE (t:Tr) (ht:insOk t):Aa Tryz.prog 82 [trF t] (fun r=>r= .d (Ac true (Tr.encs t.ks))):=by
 obtain⟨h1,h2,h3⟩:=ht
 obtain⟨c,n,k,b,ks⟩:=t
 rw[Bm]
 simp only[Tr.ks] at h1 h2 h3⊢
 refine acQ 21 Tryz.func82 rfl rfl fun _ _ _=> ?_
 (all_goals(conv=>whnf))
 refine NLoop.goA [.s 3 1 5] (fun i:Nat=>i≤ks.length) (fun i=>ks.length-i) (fun i=>⟨[(1,.ptr 1 0),(3,Aq 3 5 (Tr.encs (ks.take i))),(4,iv i)],[(1,[iv c,iv n,bv k,.d (Ac false b),.d (.sl false ks.length 5 (Tr.cellss false ks))])],[(3,((Tr.encs (ks.take i)).length,1,5))]⟩) 0 (by omega) leQ ?_
 rintro i hi
 have ht:=Tr.encs_le ks i
 by_cases hik:i<ks.length
 ·have gi:decide ((i:Int)<ks.length)=true:=decide_eq_true (by omega)
  obtain⟨x,hg⟩:∃p,ks[i]?=some p:=⟨_,List.getElem?_eq_getElem hik⟩
  have hs:=Tr.encs_snoc hg
  have ht2:=Tr.encs_le ks (i+1)
  rw[hs,List.length_append] at ht2
  have hB:=N1 x (h2 x (List.mem_of_getElem? hg)) (by omega)
  generalize x.enc=e at hB hs ht2
  generalize Tr.encs (ks.take i)=Q at hs ht ht2⊢
  obtain⟨c',n',k',b',ks'⟩:=x
  rw[Bm] at hB
  (repeat'((conv=>whnf);first|refine NBr.pos asQ ?_|(refine NIdx.trs hg ?_)|refine NCall.eq hB Cc ?_|(with_reducible refine NInt.i64 ?_)|(with_reducible refine NApp.bytes ?_)));(all_goals(conv=>whnf))
  refine⟨i+1,by omega,by omega,?_⟩
  rw[hs]
  exact leQ
 ·have gi:decide ((i:Int)<ks.length)=false:=decide_eq_false (by omega)
  obtain rfl:i=ks.length:=by omega
  rw[List.take_length]
  (repeat'((conv=>whnf);refine NBr.neg asQ ?_));(all_goals(conv=>whnf))
  all_goals exact NEnd.eq leQ
structure Tr.gn (t:Tr):Prop where
 v:t.v.length≤30000
 k0:(t.kid 0).v.length≤30000
 i:insOk t
 i1:insOk (t.kid 1)
 nm:(t.kid 0).nm
 a:((t.kid 0).kid 0).v.length≤1000000
 p:((t.kid 1).kid 0).v.length≤1000000
theorem GW (t:Tr) (c n:Nat) (k:Bool):t.isB c n k=isT t c n k:=by
 obtain⟨c',n',k',b',ks'⟩:=t
 exact Bool.and_assoc _ _ _
theorem FH {c:Nat} {k:Bool} {b:List UInt8} {ks:List Tr} (ht:(Tr.mk c 0 k b ks).gn):Aa Tryz.prog 52 [trF (.mk c 0 k b ks)] (fun r=>r=gnF (Ax (.mk c 0 k b ks))):=by
 obtain⟨h1,h2,h3,h4,h5,h6,h7⟩:=ht
 have hK0:=G5 (.mk c 0 k b ks) 0 (by omega)
 have hK1:=G5 (.mk c 0 k b ks) 1 (by omega)
 have hR:=Lr _ h2
 have hI:=dE _ h4
 rw[show Ax (.mk c 0 k b ks)=⟨0,odT ((Tr.mk c 0 k b ks).kid 0).v,[],Tr.encs ((Tr.mk c 0 k b ks).kid 1).ks,[],0,[],0,[]⟩ from rfl]
 generalize odT _=o at hR⊢
 generalize Tr.encs _=e at hI⊢
 generalize (Tr.mk c 0 k b ks).kid 0=k0 at hK0 hR
 generalize (Tr.mk c 0 k b ks).kid 1=k1 at hK1 hI
 clear h1 h2 h3 h4 h5 h6 h7
 obtain⟨c0,n0,j0,b0,ks0⟩:=k0
 obtain⟨c1,n1,j1,b1,ks1⟩:=k1
 simp only[Bm] at hK0 hK1 hR hI⊢
 refine acQ 73 Tryz.func52 rfl rfl fun _ _ _=> ?_
 (repeat'((conv=>whnf);first|refine NBr.yes ?_|refine NCall.eq hK0 Cc ?_|refine NCall.eq hR Cc ?_|refine NCall.eq hK1 Cc ?_|refine NCall.eq hI Cc ?_));(all_goals(conv=>whnf))
 all_goals exact NEnd.eq leQ
theorem FI {c:Nat} {k:Bool} {b:List UInt8} {ks:List Tr} (ht:(Tr.mk c 1 k b ks).gn):Aa Tryz.prog 52 [trF (.mk c 1 k b ks)] (fun r=>r=gnF (Ax (.mk c 1 k b ks))):=by
 obtain⟨h1,h2,h3,h4,h5,h6,h7⟩:=ht
 have hD:=G6 22 b (by have:=h1;simp only[Tr.v] at this;omega)
 rw[show Ax (.mk c 1 k b ks)=⟨1,[],Bs 22 b,[],[],0,[],0,[]⟩ from rfl]
 clear h1 h2 h3 h4 h5 h6 h7
 rw[Bm]
 refine acQ 73 Tryz.func52 rfl rfl fun _ _ _=> ?_
 (repeat'((conv=>whnf);first|refine NBr.yes ?_|refine NBr.no ?_|refine NCall.eq hD Cc ?_));(all_goals(conv=>whnf))
 all_goals exact NEnd.eq leQ
theorem FJ {c:Nat} {k:Bool} {b:List UInt8} {ks:List Tr} (ht:(Tr.mk c 2 k b ks).gn):Aa Tryz.prog 52 [trF (.mk c 2 k b ks)] (fun r=>r=gnF (Ax (.mk c 2 k b ks))):=by
 obtain⟨h1,h2,h3,h4,h5,h6,h7⟩:=ht
 have hD:=G6 22 b (by have:=h1;simp only[Tr.v] at this;omega)
 rw[show Ax (.mk c 2 k b ks)=⟨2,[],Bs 22 b,[],[],0,[],0,[]⟩ from rfl]
 clear h1 h2 h3 h4 h5 h6 h7
 rw[Bm]
 refine acQ 73 Tryz.func52 rfl rfl fun _ _ _=> ?_
 (repeat'((conv=>whnf);first|refine NBr.yes ?_|refine NBr.no ?_|refine NCall.eq hD Cc ?_));(all_goals(conv=>whnf))
 all_goals exact NEnd.eq leQ
theorem FK {c:Nat} {k:Bool} {b:List UInt8} {ks:List Tr} (ht:(Tr.mk c 6 k b ks).gn):Aa Tryz.prog 52 [trF (.mk c 6 k b ks)] (fun r=>r=gnF (Ax (.mk c 6 k b ks))):=by
 obtain⟨h1,h2,h3,h4,h5,h6,h7⟩:=ht
 have hD:=G6 22 b (by have:=h1;simp only[Tr.v] at this;omega)
 rw[show Ax (.mk c 6 k b ks)=⟨6,[],Bs 22 b,[],[],0,[],0,[]⟩ from rfl]
 clear h1 h2 h3 h4 h5 h6 h7
 rw[Bm]
 refine acQ 73 Tryz.func52 rfl rfl fun _ _ _=> ?_
 (repeat'((conv=>whnf);first|refine NBr.yes ?_|refine NBr.no ?_|refine NCall.eq hD Cc ?_));(all_goals(conv=>whnf))
 all_goals exact NEnd.eq leQ
theorem FL {c:Nat} {k:Bool} {b:List UInt8} {ks:List Tr} (ht:(Tr.mk c 3 k b ks).gn):Aa Tryz.prog 52 [trF (.mk c 3 k b ks)] (fun r=>r=gnF (Ax (.mk c 3 k b ks))):=by
 obtain⟨h1,h2,h3,h4,h5,h6,h7⟩:=ht
 have hI:=dE _ h3
 rw[show Ax (.mk c 3 k b ks)=⟨3,[],[],Tr.encs (Tr.mk c 3 k b ks).ks,[],0,[],0,[]⟩ from rfl]
 generalize Tr.encs _=e at hI⊢
 clear h1 h2 h3 h4 h5 h6 h7
 simp only[Bm] at hI⊢
 refine acQ 73 Tryz.func52 rfl rfl fun _ _ _=> ?_
 (repeat'((conv=>whnf);first|refine NBr.yes ?_|refine NBr.no ?_|refine NCall.eq hI Cc ?_));(all_goals(conv=>whnf))
 all_goals exact NEnd.eq leQ
theorem FM {c:Nat} {k:Bool} {b:List UInt8} {ks:List Tr} (ht:(Tr.mk c 4 k b ks).gn):Aa Tryz.prog 52 [trF (.mk c 4 k b ks)] (fun r=>r=gnF (Ax (.mk c 4 k b ks))):=by
 obtain⟨h1,h2,h3,h4,h5,h6,h7⟩:=ht
 have hK0:=G5 (.mk c 4 k b ks) 0 (by omega)
 have hN:=wD _ h5
 rw[show Ax (.mk c 4 k b ks)=⟨4,[],[],[],Lx ((Tr.mk c 4 k b ks).kid 0),0,[],0,[]⟩ from rfl]
 generalize Lx _=nm at hN⊢
 generalize (Tr.mk c 4 k b ks).kid 0=k0 at hK0 hN
 clear h1 h2 h3 h4 h5 h6 h7
 obtain⟨c0,n0,j0,b0,ks0⟩:=k0
 simp only[Bm] at hK0 hN⊢
 refine acQ 73 Tryz.func52 rfl rfl fun _ _ _=> ?_
 (repeat'((conv=>whnf);first|refine NBr.yes ?_|refine NBr.no ?_|refine NCall.eq hK0 Cc ?_|refine NCall.eq hN Cc ?_));(all_goals(conv=>whnf))
 all_goals exact NEnd.eq leQ
theorem FN {c:Nat} {k:Bool} {b:List UInt8} {ks:List Tr} (ht:(Tr.mk c 7 k b ks).gn):Aa Tryz.prog 52 [trF (.mk c 7 k b ks)] (fun r=>r=gnF (Ax (.mk c 7 k b ks))):=by
 obtain⟨h1,h2,h3,h4,h5,h6,h7⟩:=ht
 rw[show Ax (.mk c 7 k b ks)=⟨7,[],[],b,[],0,[],0,[]⟩ from rfl]
 clear h1 h2 h3 h4 h5 h6 h7
 rw[Bm]
 refine acQ 73 Tryz.func52 rfl rfl fun _ _ _=> ?_
 (repeat'((conv=>whnf);first|refine NBr.yes ?_|refine NBr.no ?_));(all_goals(conv=>whnf))
 all_goals exact NEnd.eq leQ
theorem FO {c:Nat} {k:Bool} {b:List UInt8} {ks:List Tr} (ht:(Tr.mk c 8 k b ks).gn):Aa Tryz.prog 52 [trF (.mk c 8 k b ks)] (fun r=>r=gnF (Ax (.mk c 8 k b ks))):=by
 obtain⟨h1,h2,h3,h4,h5,h6,h7⟩:=ht
 have hR:=Lr _ h1
 rw[show Ax (.mk c 8 k b ks)=⟨8,odT (Tr.mk c 8 k b ks).v,[],[],[],0,[],0,[]⟩ from rfl]
 generalize odT _=o at hR⊢
 clear h1 h2 h3 h4 h5 h6 h7
 simp only[Bm] at hR⊢
 refine acQ 73 Tryz.func52 rfl rfl fun _ _ _=> ?_
 (repeat'((conv=>whnf);first|refine NBr.yes ?_|refine NBr.no ?_|refine NCall.eq hR Cc ?_));(all_goals(conv=>whnf))
 all_goals exact NEnd.eq leQ
theorem FP {c:Nat} {k:Bool} {b:List UInt8} {ks:List Tr} (ht:(Tr.mk c 5 k b ks).gn):Aa Tryz.prog 52 [trF (.mk c 5 k b ks)] (fun r=>r=gnF (Ax (.mk c 5 k b ks))):=by
 obtain⟨h1,h2,h3,h4,h5,h6,h7⟩:=ht
 have hK0:=G5 (.mk c 5 k b ks) 0 (by omega)
 have hK1:=G5 (.mk c 5 k b ks) 1 (by omega)
 have hI:=BC ((Tr.mk c 5 k b ks).kid 0) 2 0 true
 rw[GW] at hI
 rw[show Ax (.mk c 5 k b ks)=if isT ((Tr.mk c 5 k b ks).kid 0) 2 0 true then⟨5,[],[],[],[],M2 (((Tr.mk c 5 k b ks).kid 0).kid 0),M3 (((Tr.mk c 5 k b ks).kid 0).kid 0),M2 (((Tr.mk c 5 k b ks).kid 1).kid 0),M3 (((Tr.mk c 5 k b ks).kid 1).kid 0)⟩ else⟨5,[],[],[],[],0,[],M2 (((Tr.mk c 5 k b ks).kid 0).kid 0),M3 (((Tr.mk c 5 k b ks).kid 0).kid 0)⟩ from rfl]
 generalize (Tr.mk c 5 k b ks).kid 0=k0 at hK0 hI h6⊢
 generalize (Tr.mk c 5 k b ks).kid 1=k1 at hK1 h7⊢
 have hJ0:=G5 k0 0 (by omega)
 have hJ1:=G5 k1 0 (by omega)
 have hS0:=dC _ h6
 have hS1:=dC _ h7
 generalize M2 (k0.kid 0)=a1 at hS0⊢
 generalize M3 (k0.kid 0)=a2 at hS0⊢
 generalize M2 (k1.kid 0)=p1 at hS1⊢
 generalize M3 (k1.kid 0)=p2 at hS1⊢
 generalize k0.kid 0=j0 at hJ0 hS0
 generalize k1.kid 0=j1 at hJ1 hS1
 clear h1 h2 h3 h4 h5 h6 h7
 cases hq:isT k0 2 0 true
 ·rw[hq] at hI
  rw[if_neg (by simp)]
  clear hq
  obtain⟨c0,n0,l0,b0,ks0⟩:=k0
  obtain⟨d0,m0,i0,x0,kt0⟩:=j0
  simp only[Bm] at hK0 hI hJ0 hS0⊢
  refine acQ 73 Tryz.func52 rfl rfl fun _ _ _=> ?_
  (repeat'((conv=>whnf);first|refine NBr.yes ?_|refine NBr.no ?_|refine NCall.eq hK0 Cc ?_|refine NCall.eq hI Cc ?_|refine NCall.eq hJ0 Cc ?_|refine NCall.eq hS0 Cc ?_));(all_goals(conv=>whnf))
  all_goals exact NEnd.eq leQ
 ·rw[hq] at hI
  rw[if_pos rfl]
  clear hq
  obtain⟨c0,n0,l0,b0,ks0⟩:=k0
  obtain⟨d0,m0,i0,x0,kt0⟩:=j0
  obtain⟨c1,n1,l1,b1,ks1⟩:=k1
  obtain⟨d1,m1,i1,x1,kt1⟩:=j1
  simp only[Bm] at hK0 hK1 hI hJ0 hS0 hJ1 hS1⊢
  refine acQ 73 Tryz.func52 rfl rfl fun _ _ _=> ?_
  (repeat'((conv=>whnf);first|refine NBr.yes ?_|refine NBr.no ?_|refine NCall.eq hK0 Cc ?_|refine NCall.eq hI Cc ?_|refine NCall.eq hJ0 Cc ?_|refine NCall.eq hS0 Cc ?_|refine NCall.eq hK1 Cc ?_|refine NCall.eq hJ1 Cc ?_|refine NCall.eq hS1 Cc ?_));(all_goals(conv=>whnf))
  all_goals exact NEnd.eq leQ
theorem wM (t:Tr) (ht:t.gn):Aa Tryz.prog 52 [trF t] (fun r=>r=gnF (Ax t)):=by
 obtain⟨c,n,k,b,ks⟩:=t
 by_cases hn:n≤8
 ·rcases(by omega:n=0∨n=1∨n=2∨n=3∨n=4∨n=5∨n=6∨n=7∨n=8) with rfl|rfl|rfl|rfl|rfl|rfl|rfl|rfl|rfl
  ·exact FH ht
  ·exact FI ht
  ·exact FJ ht
  ·exact FL ht
  ·exact FM ht
  ·exact FP ht
  ·exact FK ht
  ·exact FN ht
  ·exact FO ht
 ·have e:Ax (.mk c n k b ks)=⟨n,[],[],[],[],0,[],0,[]⟩:=by
   obtain⟨m,rfl⟩:∃m,n=m+9:=⟨n-9,by omega⟩
   rfl
  rw[e,Bm]
  have g0:((n:Int)==0)=false:=beq_eq_false_iff_ne.2 (by omega)
  have g1:((n:Int)==1)=false:=beq_eq_false_iff_ne.2 (by omega)
  have g2:((n:Int)==2)=false:=beq_eq_false_iff_ne.2 (by omega)
  have g3:((n:Int)==3)=false:=beq_eq_false_iff_ne.2 (by omega)
  have g4:((n:Int)==4)=false:=beq_eq_false_iff_ne.2 (by omega)
  have g5:((n:Int)==5)=false:=beq_eq_false_iff_ne.2 (by omega)
  have g6:((n:Int)==6)=false:=beq_eq_false_iff_ne.2 (by omega)
  have g7:((n:Int)==7)=false:=beq_eq_false_iff_ne.2 (by omega)
  have g8:((n:Int)==8)=false:=beq_eq_false_iff_ne.2 (by omega)
  refine acQ 73 Tryz.func52 rfl rfl fun _ _ _=> ?_
  (repeat'((conv=>whnf);refine NBr.neg asQ ?_));(all_goals(conv=>whnf))
  all_goals exact NEnd.eq leQ
end Go.Proofs.YtgmbmfoabndmoaaGreatDoor
