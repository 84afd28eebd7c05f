/- MS: the texts R13V R13M R13R, one behind the other. No condition but what each lemma says. -/
import Derived.Test.YtaoahmplnckhpaaGreatDoorMR
set_option maxRecDepth 100000
set_option maxHeartbeats 16000000
namespace Go.Proofs.YtaoahmplnckhpaaGreatDoor
open Go.RowKit
def stB (a b c d e:Bool) (g:Gn):Gn:=⟨0,if a then [] else g.oid,if b then [] else g.tx,if c then [] else g.by',if d then [] else g.nm,if e then 0 else g.ak,if e then [] else g.av,if e then 0 else g.pk,if e then [] else g.pv⟩
theorem EZ {α:Type} [BEq α] (l:List α):((l.length:Int)==0)=decide (l=[]):=by
 cases l with
 |nil=>rfl
 |cons a r=>rw[decide_eq_false (by simp)];exact beq_eq_false_iff_ne.2 (by simp;omega)
theorem Jg (a b c d e:Bool) (g:Gn):decide (stB a b c d e g=gz)=alB a b c d e g:=by
 obtain⟨k,o,t,b1,n,ak,av,pk,pv⟩:=g
 unfold stB gz alB zT
 simp only[EZ]
 rw[Bool.eq_iff_iff]
 cases a<;>cases b<;>cases c<;>cases d<;>cases e<;>simp[and_assoc]
def okG (g:Gn):Bool:=
 if g.k=0 then E0 g.oid&&Ek g.by' else if g.k=1∨g.k=2∨g.k=6 then An 22 g.tx
 else if g.k=3 then Ek (Ao 2 3 true g.by') else if g.k=4 then nmV g.nm
 else if g.k=5 then(zT g.ak g.av||fiB g.ak g.av)&&fiB g.pk g.pv
 else if g.k=7 then ip g.by'.length else if g.k=8 then E0 g.oid else false
theorem iE {k:Int} {l:List UInt8} (h:fiB k l=true):An k l=true:=by unfold fiB at h;simp at h;exact h.1
theorem Ia (g:Gn):gnW g=(okG g&&Cl g):=by
 rw[Bool.eq_iff_iff]
 unfold gnW okG Pq Gq Me
 simp only[Ap]
 by_cases h0:g.k=0
 ·rw[if_pos h0,if_pos h0,if_pos h0,h0];cases E0 g.oid<;>simp;exact and_comm
 rw[if_neg h0,if_neg h0,if_neg h0]
 by_cases h1:g.k=1∨g.k=2∨g.k=6
 ·rw[if_pos h1,if_pos h1,if_neg (by omega),if_neg (by omega),show(g.k==5)=false from beq_eq_false_iff_ne.2 (by omega)];cases An 22 g.tx<;>simp
 rw[if_neg h1,if_neg h1]
 by_cases h3:g.k=3
 ·rw[if_pos h3,if_pos h3,if_pos (.inl h3),h3];simp;exact and_comm
 rw[if_neg h3,if_neg h3]
 by_cases h4:g.k=4
 ·rw[if_pos h4,if_neg (by omega),if_neg (by omega),if_pos h4,h4];cases nmV g.nm<;>simp
 rw[if_neg h4]
 by_cases h5:g.k=5
 ·rw[if_pos h5,if_neg (by omega),if_neg (by omega),if_neg h4,if_pos h5,h5]
  unfold Zu
  constructor
  ·rintro⟨a,h0,h1,h⟩;exact⟨by simpa using h,a⟩
  ·rintro⟨h,a⟩
   rw[Ap] at h
   obtain⟨h1,h2⟩:=h
   refine⟨a,rfl,?_,by simp[h1,h2]⟩
   rw[if_pos]
   ·rfl
   ·rw[Ap]
    refine⟨?_,iE h2⟩
    rcases Bool.or_eq_true_iff.1 h1 with h|h
    ·rw[h];rfl
    ·rw[iE h,Bool.or_true]
 rw[if_neg h5]
 by_cases h7:g.k=7
 ·rw[if_pos h7,if_pos h7,if_pos (.inr h7),h7];simp;exact and_comm
 rw[if_neg h7,if_neg h7]
 rw[if_neg (by omega),if_neg h4,if_neg h5,show(g.k==5)=false from beq_eq_false_iff_ne.2 h5]
 by_cases h8:g.k=8
 ·rw[if_pos h8,if_pos h8];cases E0 g.oid<;>simp
 ·rw[if_neg h8,if_neg h8];simp
theorem Jh {n:List (List Att)} (h:nmZ n):xX n:=⟨by have:=h.l;omega,fun r hr=>⟨by have:=(h.r r hr).l;omega,fun a ha=>⟨by have:=((h.r r hr).a a ha).v;omega⟩⟩⟩
structure Gn.zz (g:Gn):Prop where
 o:g.oid.length≤3000000
 t:g.tx.length≤3000000
 b:g.by'.length≤3000000
 n:nmZ g.nm
 a:g.av.length≤3000000
 p:g.pv.length≤3000000
theorem Gn.sm.z {g:Gn} (h:g.sm):g.zz:=⟨h.o,h.t,h.b,h.n,h.a,h.p⟩
theorem Gn.zz.s {g:Gn} (h:g.zz):g.sm:=⟨h.o,h.t,h.b,h.n,h.a,h.p⟩
theorem Gn.zz.q {g:Gn} (h:g.zz):g.eqs:=⟨by have:=h.b;omega,Jh h.n⟩
theorem Ji:gz.eqs:=⟨by simp[gz],by simp[gz,xX]⟩
theorem Hy {p:Prop} (h:p:=by first|rfl|(simp only[AV.gives,AV.ren,AV.give,D.un,D.uns,Ai,Am,List.nil_append,List.append_nil,List.cons_append,At,A5,Cm,Bm,A4,Cf,Ck,Cn,Bp,C7,Be];first|done|rfl)):p:=h
theorem Ep {p:Prop} (h:p:=by((try simp only[AV.gives,AV.ren,AV.give,D.un,D.uns,Ai,Am,List.nil_append,List.append_nil,List.cons_append,At,A5,Cm,Bm,A4,Cf,Ck,Cn,Bp,C7,Be]);(repeat'(first|exact trivial|exact Cp _|refine And.intro ?_ ?_|exact rfl|exact Or.inr rfl|exact Or.inl rfl|exact Or.inl (by rfl)|omega|refine Or.inr ?_));first|done|fail)):p:=h
theorem CC {o t b1:List UInt8} {n:List (List Att)} {ak:Int} {av:List UInt8} {pk:Int} {pv:List UInt8} (hs:(⟨0,o,t,b1,n,ak,av,pk,pv⟩:Gn).zz):Ac Tryz.prog 104 [gnA ⟨0,o,t,b1,n,ak,av,pk,pv⟩] (fun r=>r=bv (gnW ⟨0,o,t,b1,n,ak,av,pk,pv⟩)):=by
 have hG:=C0 ⟨0,[],t,[],n,ak,av,pk,pv⟩ gz ⟨by simp,Jh hs.n⟩ Ji
 obtain⟨s1,s2,s3,s4,s5,s6⟩:=hs
 simp only at s1 s2 s3 s4 s5 s6
 rw[show decide ((⟨0,[],t,[],n,ak,av,pk,pv⟩:Gn)=gz)=Cl ⟨0,o,t,b1,n,ak,av,pk,pv⟩ from Jg true false true false false ⟨0,o,t,b1,n,ak,av,pk,pv⟩] at hG
 rw[Ia,show okG ⟨0,o,t,b1,n,ak,av,pk,pv⟩=(E0 o&&Ek b1) from rfl]
 generalize Cl _=A at hG⊢
 have hV:=H8 o (by omega)
 have hO:=Ma b1 (by omega)
 cases h1:E0 o
 ·rw[h1] at hV
  refine acQ 100 Tryz.func104 rfl rfl fun _ _ _=> ?_
  (repeat'((conv=>whnf);first|refine Ab ?_|refine Ae ?_|refine Aa hV rfl ?_|exact zE))
 rw[h1] at hV
 cases h2:Ek b1
 ·rw[h2] at hO
  refine acQ 100 Tryz.func104 rfl rfl fun _ _ _=> ?_
  (repeat'((conv=>whnf);first|refine Ab ?_|refine Ae ?_|refine Aa hV rfl ?_|refine Aa hO Hy ?_|exact zE))
 ·rw[h2] at hO
  refine acQ 100 Tryz.func104 rfl rfl fun _ _ _=> ?_
  (repeat'((conv=>whnf);first|refine Ab ?_|refine Aa hV rfl ?_|refine Aa hO Hy ?_|refine Bc hG Ep ?_|exact zE))
theorem CD {o t b1:List UInt8} {n:List (List Att)} {ak:Int} {av:List UInt8} {pk:Int} {pv:List UInt8} (hs:(⟨1,o,t,b1,n,ak,av,pk,pv⟩:Gn).zz):Ac Tryz.prog 104 [gnA ⟨1,o,t,b1,n,ak,av,pk,pv⟩] (fun r=>r=bv (gnW ⟨1,o,t,b1,n,ak,av,pk,pv⟩)):=by
 have hG:=C0 ⟨0,o,[],b1,n,ak,av,pk,pv⟩ gz ⟨by have:=hs.b;simp only at this⊢;omega,Jh hs.n⟩ Ji
 obtain⟨s1,s2,s3,s4,s5,s6⟩:=hs
 simp only at s1 s2 s3 s4 s5 s6
 rw[show decide ((⟨0,o,[],b1,n,ak,av,pk,pv⟩:Gn)=gz)=Cl ⟨1,o,t,b1,n,ak,av,pk,pv⟩ from Jg false true false false false ⟨1,o,t,b1,n,ak,av,pk,pv⟩] at hG
 rw[Ia,show okG ⟨1,o,t,b1,n,ak,av,pk,pv⟩=(An 22 t) from rfl]
 generalize Cl _=A at hG⊢
 have hV:=Hx 22 t (by omega)
 cases h1:An 22 t
 ·rw[h1] at hV
  refine acQ 100 Tryz.func104 rfl rfl fun _ _ _=> ?_
  (repeat'((conv=>whnf);first|refine Ab ?_|refine Ae ?_|refine Aa hV rfl ?_|exact zE))
 ·rw[h1] at hV
  refine acQ 100 Tryz.func104 rfl rfl fun _ _ _=> ?_
  (repeat'((conv=>whnf);first|refine Ab ?_|refine Ae ?_|refine Aa hV rfl ?_|refine Bc hG Ep ?_|exact zE))
theorem CE {o t b1:List UInt8} {n:List (List Att)} {ak:Int} {av:List UInt8} {pk:Int} {pv:List UInt8} (hs:(⟨2,o,t,b1,n,ak,av,pk,pv⟩:Gn).zz):Ac Tryz.prog 104 [gnA ⟨2,o,t,b1,n,ak,av,pk,pv⟩] (fun r=>r=bv (gnW ⟨2,o,t,b1,n,ak,av,pk,pv⟩)):=by
 have hG:=C0 ⟨0,o,[],b1,n,ak,av,pk,pv⟩ gz ⟨by have:=hs.b;simp only at this⊢;omega,Jh hs.n⟩ Ji
 obtain⟨s1,s2,s3,s4,s5,s6⟩:=hs
 simp only at s1 s2 s3 s4 s5 s6
 rw[show decide ((⟨0,o,[],b1,n,ak,av,pk,pv⟩:Gn)=gz)=Cl ⟨2,o,t,b1,n,ak,av,pk,pv⟩ from Jg false true false false false ⟨2,o,t,b1,n,ak,av,pk,pv⟩] at hG
 rw[Ia,show okG ⟨2,o,t,b1,n,ak,av,pk,pv⟩=(An 22 t) from rfl]
 generalize Cl _=A at hG⊢
 have hV:=Hx 22 t (by omega)
 cases h1:An 22 t
 ·rw[h1] at hV
  refine acQ 100 Tryz.func104 rfl rfl fun _ _ _=> ?_
  (repeat'((conv=>whnf);first|refine Ab ?_|refine Ae ?_|refine Aa hV rfl ?_|exact zE))
 ·rw[h1] at hV
  refine acQ 100 Tryz.func104 rfl rfl fun _ _ _=> ?_
  (repeat'((conv=>whnf);first|refine Ab ?_|refine Ae ?_|refine Aa hV rfl ?_|refine Bc hG Ep ?_|exact zE))
theorem CF {o t b1:List UInt8} {n:List (List Att)} {ak:Int} {av:List UInt8} {pk:Int} {pv:List UInt8} (hs:(⟨6,o,t,b1,n,ak,av,pk,pv⟩:Gn).zz):Ac Tryz.prog 104 [gnA ⟨6,o,t,b1,n,ak,av,pk,pv⟩] (fun r=>r=bv (gnW ⟨6,o,t,b1,n,ak,av,pk,pv⟩)):=by
 have hG:=C0 ⟨0,o,[],b1,n,ak,av,pk,pv⟩ gz ⟨by have:=hs.b;simp only at this⊢;omega,Jh hs.n⟩ Ji
 obtain⟨s1,s2,s3,s4,s5,s6⟩:=hs
 simp only at s1 s2 s3 s4 s5 s6
 rw[show decide ((⟨0,o,[],b1,n,ak,av,pk,pv⟩:Gn)=gz)=Cl ⟨6,o,t,b1,n,ak,av,pk,pv⟩ from Jg false true false false false ⟨6,o,t,b1,n,ak,av,pk,pv⟩] at hG
 rw[Ia,show okG ⟨6,o,t,b1,n,ak,av,pk,pv⟩=(An 22 t) from rfl]
 generalize Cl _=A at hG⊢
 have hV:=Hx 22 t (by omega)
 cases h1:An 22 t
 ·rw[h1] at hV
  refine acQ 100 Tryz.func104 rfl rfl fun _ _ _=> ?_
  (repeat'((conv=>whnf);first|refine Ab ?_|refine Ae ?_|refine Aa hV rfl ?_|exact zE))
 ·rw[h1] at hV
  refine acQ 100 Tryz.func104 rfl rfl fun _ _ _=> ?_
  (repeat'((conv=>whnf);first|refine Ab ?_|refine Ae ?_|refine Aa hV rfl ?_|refine Bc hG Ep ?_|exact zE))
theorem CG {o t b1:List UInt8} {n:List (List Att)} {ak:Int} {av:List UInt8} {pk:Int} {pv:List UInt8} (hs:(⟨3,o,t,b1,n,ak,av,pk,pv⟩:Gn).zz):Ac Tryz.prog 104 [gnA ⟨3,o,t,b1,n,ak,av,pk,pv⟩] (fun r=>r=bv (gnW ⟨3,o,t,b1,n,ak,av,pk,pv⟩)):=by
 have hG:=C0 ⟨0,o,t,[],n,ak,av,pk,pv⟩ gz ⟨by simp,Jh hs.n⟩ Ji
 obtain⟨s1,s2,s3,s4,s5,s6⟩:=hs
 simp only at s1 s2 s3 s4 s5 s6
 rw[show decide ((⟨0,o,t,[],n,ak,av,pk,pv⟩:Gn)=gz)=Cl ⟨3,o,t,b1,n,ak,av,pk,pv⟩ from Jg false false true false false ⟨3,o,t,b1,n,ak,av,pk,pv⟩] at hG
 rw[Ia,show okG ⟨3,o,t,b1,n,ak,av,pk,pv⟩=(Ek (Ao 2 3 true b1)) from rfl]
 generalize Cl _=A at hG⊢
 have hP:Ac Tryz.prog 115 [cv 163,.d (Af false b1)] (fun r=>r=Cg 0 5 (Ao 2 3 true b1)):=Rc 163 b1 (by omega)
 have hl:=A2 2 3 true b1 (by omega)
 have hV:=Ma (Ao 2 3 true b1) (by omega)
 cases h1:Ek (Ao 2 3 true b1)
 ·rw[h1] at hV
  refine acQ 100 Tryz.func104 rfl rfl fun _ _ _=> ?_
  (repeat'((conv=>whnf);first|refine Ab ?_|refine Ae ?_|refine Aa hP Hy ?_|refine Aa hV Hy ?_|exact zE))
 ·rw[h1] at hV
  refine acQ 100 Tryz.func104 rfl rfl fun _ _ _=> ?_
  (repeat'((conv=>whnf);first|refine Ab ?_|refine Ae ?_|refine Aa hP Hy ?_|refine Aa hV Hy ?_|refine Bc hG Ep ?_|exact zE))
theorem CH {o t b1:List UInt8} {n:List (List Att)} {ak:Int} {av:List UInt8} {pk:Int} {pv:List UInt8} (hs:(⟨4,o,t,b1,n,ak,av,pk,pv⟩:Gn).zz):Ac Tryz.prog 104 [gnA ⟨4,o,t,b1,n,ak,av,pk,pv⟩] (fun r=>r=bv (gnW ⟨4,o,t,b1,n,ak,av,pk,pv⟩)):=by
 have hG:=C0 ⟨0,o,t,b1,[],ak,av,pk,pv⟩ gz ⟨by have:=hs.b;simp only at this⊢;omega,by simp[xX]⟩ Ji
 obtain⟨s1,s2,s3,s4,s5,s6⟩:=hs
 simp only at s1 s2 s3 s4 s5 s6
 rw[show decide ((⟨0,o,t,b1,[],ak,av,pk,pv⟩:Gn)=gz)=Cl ⟨4,o,t,b1,n,ak,av,pk,pv⟩ from Jg false false false true false ⟨4,o,t,b1,n,ak,av,pk,pv⟩] at hG
 rw[Ia,show okG ⟨4,o,t,b1,n,ak,av,pk,pv⟩=(nmV n) from rfl]
 generalize Cl _=A at hG⊢
 have hV:=tA n s4
 cases h1:nmV n
 ·rw[h1] at hV
  refine acQ 100 Tryz.func104 rfl rfl fun _ _ _=> ?_
  (repeat'((conv=>whnf);first|refine Ab ?_|refine Ae ?_|refine Aa hV Hy ?_|exact zE))
 ·rw[h1] at hV
  refine acQ 100 Tryz.func104 rfl rfl fun _ _ _=> ?_
  (repeat'((conv=>whnf);first|refine Ab ?_|refine Ae ?_|refine Aa hV Hy ?_|refine Bc hG Ep ?_|exact zE))
theorem CI {o t b1:List UInt8} {n:List (List Att)} {ak:Int} {av:List UInt8} {pk:Int} {pv:List UInt8} (hs:(⟨8,o,t,b1,n,ak,av,pk,pv⟩:Gn).zz):Ac Tryz.prog 104 [gnA ⟨8,o,t,b1,n,ak,av,pk,pv⟩] (fun r=>r=bv (gnW ⟨8,o,t,b1,n,ak,av,pk,pv⟩)):=by
 have hG:=C0 ⟨0,[],t,b1,n,ak,av,pk,pv⟩ gz ⟨by have:=hs.b;simp only at this⊢;omega,Jh hs.n⟩ Ji
 obtain⟨s1,s2,s3,s4,s5,s6⟩:=hs
 simp only at s1 s2 s3 s4 s5 s6
 rw[show decide ((⟨0,[],t,b1,n,ak,av,pk,pv⟩:Gn)=gz)=Cl ⟨8,o,t,b1,n,ak,av,pk,pv⟩ from Jg true false false false false ⟨8,o,t,b1,n,ak,av,pk,pv⟩] at hG
 rw[Ia,show okG ⟨8,o,t,b1,n,ak,av,pk,pv⟩=(E0 o) from rfl]
 generalize Cl _=A at hG⊢
 have hV:=H8 o (by omega)
 cases h1:E0 o
 ·rw[h1] at hV
  refine acQ 100 Tryz.func104 rfl rfl fun _ _ _=> ?_
  (repeat'((conv=>whnf);first|refine Ab ?_|refine Ae ?_|refine Aa hV rfl ?_|exact zE))
 ·rw[h1] at hV
  refine acQ 100 Tryz.func104 rfl rfl fun _ _ _=> ?_
  (repeat'((conv=>whnf);first|refine Ab ?_|refine Ae ?_|refine Aa hV rfl ?_|refine Bc hG Ep ?_|exact zE))
theorem CJ {o t b1:List UInt8} {n:List (List Att)} {ak:Int} {av:List UInt8} {pk:Int} {pv:List UInt8} (hs:(⟨5,o,t,b1,n,ak,av,pk,pv⟩:Gn).zz):Ac Tryz.prog 104 [gnA ⟨5,o,t,b1,n,ak,av,pk,pv⟩] (fun r=>r=bv (gnW ⟨5,o,t,b1,n,ak,av,pk,pv⟩)):=by
 have hG:=C0 ⟨0,o,t,b1,n,0,[],0,[]⟩ gz ⟨by have:=hs.b;simp only at this⊢;omega,Jh hs.n⟩ Ji
 obtain⟨s1,s2,s3,s4,s5,s6⟩:=hs
 simp only at s1 s2 s3 s4 s5 s6
 rw[show decide ((⟨0,o,t,b1,n,0,[],0,[]⟩:Gn)=gz)=Cl ⟨5,o,t,b1,n,ak,av,pk,pv⟩ from Jg false false false false true ⟨5,o,t,b1,n,ak,av,pk,pv⟩] at hG
 rw[Ia,show okG ⟨5,o,t,b1,n,ak,av,pk,pv⟩=((zT ak av||fiB ak av)&&fiB pk pv) from rfl]
 generalize Cl _=A at hG⊢
 have hV:=Uk ak av (by omega)
 have hQ:=Uk pk pv (by omega)
 have hz:zT ak av=(ak==0&&av==[]):=rfl
 cases h1:zT ak av
 ·rw[h1] at hz
  have hz:=hz.symm
  cases h2:fiB ak av
  ·rw[h2] at hV
   refine acQ 100 Tryz.func104 rfl rfl fun _ _ _=> ?_
   (repeat'((conv=>whnf);first|refine zN ?_|refine Ab ?_|refine Ae ?_|refine A9 (Dj rfl rfl (ltN rfl) rfl rfl) ?_|refine Aa hV rfl ?_|exact zE))
  ·rw[h2] at hV
   cases h3:fiB pk pv
   ·rw[h3] at hQ
    refine acQ 100 Tryz.func104 rfl rfl fun _ _ _=> ?_
    (repeat'((conv=>whnf);first|refine zN ?_|refine Ab ?_|refine Ae ?_|refine A9 (Dj rfl rfl (ltN rfl) rfl rfl) ?_|refine Aa hV rfl ?_|refine Aa hQ rfl ?_|exact zE))
   ·rw[h3] at hQ
    refine acQ 100 Tryz.func104 rfl rfl fun _ _ _=> ?_
    (repeat'((conv=>whnf);first|refine zN ?_|refine Ab ?_|refine Ae ?_|refine A9 (Dj rfl rfl (ltN rfl) rfl rfl) ?_|refine Aa hV rfl ?_|refine Aa hQ rfl ?_|refine Bc hG Ep ?_|exact zE))
 ·rw[h1] at hz
  have hz:=hz.symm
  cases h3:fiB pk pv
  ·rw[h3] at hQ
   refine acQ 100 Tryz.func104 rfl rfl fun _ _ _=> ?_
   (repeat'((conv=>whnf);first|refine zP ?_|refine Ab ?_|refine Ae ?_|refine A9 (Dj rfl rfl (ltN rfl) rfl rfl) ?_|refine Aa hQ rfl ?_|exact zE))
  ·rw[h3] at hQ
   refine acQ 100 Tryz.func104 rfl rfl fun _ _ _=> ?_
   (repeat'((conv=>whnf);first|refine zP ?_|refine Ab ?_|refine Ae ?_|refine A9 (Dj rfl rfl (ltN rfl) rfl rfl) ?_|refine Aa hQ rfl ?_|refine Bc hG Ep ?_|exact zE))
theorem CK {o t b1:List UInt8} {n:List (List Att)} {ak:Int} {av:List UInt8} {pk:Int} {pv:List UInt8} (hs:(⟨7,o,t,b1,n,ak,av,pk,pv⟩:Gn).zz):Ac Tryz.prog 104 [gnA ⟨7,o,t,b1,n,ak,av,pk,pv⟩] (fun r=>r=bv (gnW ⟨7,o,t,b1,n,ak,av,pk,pv⟩)):=by
 have hG:=C0 ⟨0,o,t,[],n,ak,av,pk,pv⟩ gz ⟨by simp,Jh hs.n⟩ Ji
 obtain⟨s1,s2,s3,s4,s5,s6⟩:=hs
 simp only at s1 s2 s3 s4 s5 s6
 rw[show decide ((⟨0,o,t,[],n,ak,av,pk,pv⟩:Gn)=gz)=Cl ⟨7,o,t,b1,n,ak,av,pk,pv⟩ from Jg false false true false false ⟨7,o,t,b1,n,ak,av,pk,pv⟩] at hG
 rw[Ia,show okG ⟨7,o,t,b1,n,ak,av,pk,pv⟩=(ip b1.length) from rfl]
 generalize Cl _=A at hG⊢
 have e:ip b1.length=(((b1.length:Int)==4)||(((b1.length:Int)==8)||(((b1.length:Int)==16)||((b1.length:Int)==32)))):=by
  unfold ip;rw[Bool.eq_iff_iff];simp;omega
 rw[e]
 cases h1:((b1.length:Int)==4)
 ·cases h2:((b1.length:Int)==8)
  ·cases h3:((b1.length:Int)==16)
   ·cases h4:((b1.length:Int)==32)
    ·refine acQ 100 Tryz.func104 rfl rfl fun _ _ _=> ?_
     (repeat'((conv=>whnf);first|refine zN ?_|refine Ab ?_|refine Ae ?_|exact zE))
    ·refine acQ 100 Tryz.func104 rfl rfl fun _ _ _=> ?_
     (repeat'((conv=>whnf);first|refine zP ?_|refine zN ?_|refine Ab ?_|refine Ae ?_|refine Bc hG Ep ?_|exact zE))
   ·refine acQ 100 Tryz.func104 rfl rfl fun _ _ _=> ?_
    (repeat'((conv=>whnf);first|refine zP ?_|refine zN ?_|refine Ab ?_|refine Ae ?_|refine Bc hG Ep ?_|exact zE))
  ·refine acQ 100 Tryz.func104 rfl rfl fun _ _ _=> ?_
   (repeat'((conv=>whnf);first|refine zP ?_|refine zN ?_|refine Ab ?_|refine Ae ?_|refine Bc hG Ep ?_|exact zE))
 ·refine acQ 100 Tryz.func104 rfl rfl fun _ _ _=> ?_
  (repeat'((conv=>whnf);first|refine zP ?_|refine Ab ?_|refine Ae ?_|refine Bc hG Ep ?_|exact zE))
theorem tE (g:Gn) (hs:g.zz):Ac Tryz.prog 104 [gnA g] (fun r=>r=bv (gnW g)):=by
 by_cases hk:0≤g.k∧g.k≤8
 ·obtain⟨k,o,t,b1,n,ak,av,pk,pv⟩:=g
  simp only at hk
  rcases(by omega:k=0∨k=1∨k=2∨k=3∨k=4∨k=5∨k=6∨k=7∨k=8) with rfl|rfl|rfl|rfl|rfl|rfl|rfl|rfl|rfl
  ·exact CC hs
  ·exact CD hs
  ·exact CE hs
  ·exact CG hs
  ·exact CH hs
  ·exact CJ hs
  ·exact CF hs
  ·exact CK hs
  ·exact CI hs
 ·have e:gnW g=false:=by
   rw[Ia,show okG g=false from ?_,Bool.false_and]
   unfold okG
   rw[if_neg (by omega),if_neg (by omega),if_neg (by omega),if_neg (by omega),if_neg (by omega),if_neg (by omega),if_neg (by omega)]
  rw[e]
  obtain⟨k,o,t,b1,n,ak,av,pk,pv⟩:=g
  simp only at hk
  have g0:(k==0)=false:=beq_eq_false_iff_ne.2 (by omega)
  have g1:(k==1)=false:=beq_eq_false_iff_ne.2 (by omega)
  have g2:(k==2)=false:=beq_eq_false_iff_ne.2 (by omega)
  have g3:(k==3)=false:=beq_eq_false_iff_ne.2 (by omega)
  have g4:(k==4)=false:=beq_eq_false_iff_ne.2 (by omega)
  have g5:(k==5)=false:=beq_eq_false_iff_ne.2 (by omega)
  have g6:(k==6)=false:=beq_eq_false_iff_ne.2 (by omega)
  have g7:(k==7)=false:=beq_eq_false_iff_ne.2 (by omega)
  have g8:(k==8)=false:=beq_eq_false_iff_ne.2 (by omega)
  refine acQ 100 Tryz.func104 rfl rfl fun _ _ _=> ?_
  (repeat'((conv=>whnf);first|refine zN ?_|refine Ae ?_|exact zE))
structure insOk (t:Tr):Prop where
 l:t.ks.length≤100000
 k:∀k∈t.ks,k.ok
 e:(Tr.encs t.ks).length≤800000000
structure Tr.gn (t:Tr):Prop where
 v:t.v.length≤30000
 k0:(t.kid 0).v.length≤30000
 i:insOk t
 i1:insOk (t.kid 1)
 nm:(t.kid 0).nm
 a:((t.kid 0).kid 0).v.length≤1000000
 p:((t.kid 1).kid 0).v.length≤1000000
end Go.Proofs.YtaoahmplnckhpaaGreatDoor
