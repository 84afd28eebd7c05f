/- MT: the texts Rz R13P GenS GenW GenV Awk13, one behind the other. No condition but what each lemma says. -/
import Derived.Test.YtaoahmplnckhpaaGreatDoorMS
set_option maxRecDepth 100000
set_option maxHeartbeats 16000000
namespace Go.Proofs.YtaoahmplnckhpaaGreatDoor
open Go.RowKit
theorem Jb (k:Int) (c:List UInt8):(Cw k c).length≤4*c.length:=by
 unfold Cw
 split
 ·simp
 split
 ·unfold Fj
  split
  ·omega
  ·have:=Jl (Ap k).toNat c (c.length/(Ap k).toNat)
   have:=Nat.div_le_self c.length (Ap k).toNat
   omega
 ·simp
theorem Wm {f:Tr→List UInt8} {C:Nat}:∀{l:List Tr},(∀k∈l,(f k).length≤C*k.enc.length)→(l.map f).flatten.length≤C*(Tr.encs l).length
 |[],_=>by simp
 |x::r,h=>by
  have h1:=h x (by simp)
  have h2:=Wm (f:=f) (C:=C) (l:=r) fun k hk=>h k (by simp[hk])
  rw[List.map_cons,List.flatten_cons,Ak,Tr.encs,Ak,Nat.mul_add];omega
theorem FQ (t:Tr) (i:Nat):(bH t i).length≤t.enc.length:=by
 unfold bH
 split
 ·rename_i k hk
  have:=Tr.mem_le (Bi hk)
  have:=t.parts;omega
 ·simp
theorem M1 {t:Tr} (h:t.ok) (i:Nat):(t.kid i).v.length≤t.enc.length+2:=by
 have:=(J8 h i).2;have:=(t.kid i).parts;omega
theorem Lz {t:Tr} (h:t.ok):∀k∈t.ks,k.ok∧k.enc.length≤t.enc.length:=fun k hk=>
 ⟨Tr.oks_mem (Tr.ok_ks h) k hk,by have:=Tr.mem_le hk;have:=t.parts;omega⟩
theorem AB {t:Tr} (h:t.ok) (hl:t.enc.length≤10000):insOk t:=
 ⟨by have:=Tr.encs_two t.ks;have:=t.parts;omega,fun k hk=>(Lz h k hk).1,by have:=t.parts;omega⟩
theorem IB {t:Tr} (h:t.ok) (hl:t.enc.length≤10000):t.at:=
 ⟨by have:=M1 h 0;omega,fun k hk=>by obtain⟨a,b⟩:=Lz h k (Bi hk);exact⟨a,by omega⟩⟩
theorem NR {t:Tr} (h:t.ok) (hl:t.enc.length≤10000):t.nm:=
 ⟨by have:=Tr.encs_two t.ks;have:=t.parts;omega,fun k hk=>by
   obtain⟨a,b⟩:=Lz h k hk
   refine⟨by have:=Tr.encs_two k.ks;have:=k.parts;omega,fun j hj=> ?_⟩
   obtain⟨c,d⟩:=Lz a j hj
   exact IB c (by omega)⟩
theorem IC {t:Tr} (h:t.ok) (hl:t.enc.length≤9000):t.gn:=by
 obtain⟨a1,a2⟩:=J8 h 0
 obtain⟨b1,b2⟩:=J8 h 1
 exact⟨by have:=t.parts;omega,by have:=M1 h 0;omega,AB h (by omega),AB b1 (by omega),NR a1 (by omega),by have:=M1 a1 0;omega,by have:=M1 b1 0;omega⟩
theorem AC {t:Tr} (h:t.ok) (hl:t.enc.length≤3010):(Nz t).sm∧(atE (Nz t)).length≤60*t.enc.length:=by
 have h1:=Qk (t.kid 0).v
 have h2:=M1 h 0
 have h3:=FQ t 1
 have h4:=t.enc_two
 have h5:=nM (odT (t.kid 0).v)
 have h6:=Ar 0 6 false (Bo (odT (t.kid 0).v)) (by omega)
 have h7:=Ar 0 16 true (Ah 0 6 false (Bo (odT (t.kid 0).v))++bH t 1) (by rw[Ak];omega)
 rw[Ak] at h7
 refine⟨⟨by show(odT _).length≤_;omega,by show(bH t 1).length≤_;omega⟩,?_⟩
 show(Ah 0 16 true (Ah 0 6 false (Bo (odT (t.kid 0).v))++bH t 1)).length≤_
 omega
theorem Tw {t:Tr} (h:t.ok) (hl:t.enc.length≤3010):rdnZ (Em t)∧(Cv (Em t)).length≤63*t.enc.length:=by
 have hp:=t.parts
 have hc:=Tr.encs_two t.ks
 have he:=t.enc_two
 have hk:∀k∈t.ks,(atE (Nz k)).length≤60*k.enc.length:=fun k hk=>by
  obtain⟨a,b⟩:=Lz h k hk
  exact(AC a (by omega)).2
 have hm:=Wm (f:=fun k=>atE (Nz k)) hk
 have hf:((Em t).map atE).flatten.length≤60*(Tr.encs t.ks).length:=by
  unfold Em;rw[List.map_map];exact hm
 have h7:=Ar 0 17 true ((Em t).map atE).flatten (by omega)
 refine⟨⟨by unfold Em;rw[List.length_map];omega,fun a ha=> ?_,by omega⟩,by unfold Cv;omega⟩
 obtain⟨k,hkm,rfl⟩:=List.mem_map.1 ha
 obtain⟨x,y⟩:=Lz h k hkm
 exact(AC x (by omega)).1
theorem AD {t:Tr} (h:t.ok) (hl:t.enc.length≤3010):nmZ (M0 t)∧(nmE (M0 t)).length≤200000:=by
 have hp:=t.parts
 have hc:=Tr.encs_two t.ks
 have hk:∀k∈t.ks,(Cv (Em k)).length≤63*k.enc.length:=fun k hk=>by
  obtain⟨a,b⟩:=Lz h k hk
  exact(Tw a (by omega)).2
 have hm:=Wm (f:=fun k=>Cv (Em k)) hk
 have hf:((M0 t).map Cv).flatten.length≤63*(Tr.encs t.ks).length:=by
  unfold M0;rw[List.map_map];exact hm
 have h7:=Ar 0 16 true ((M0 t).map Cv).flatten (by omega)
 refine⟨⟨by unfold M0;rw[List.length_map];omega,fun a ha=> ?_,by omega⟩,by unfold nmE;omega⟩
 obtain⟨k,hkm,rfl⟩:=List.mem_map.1 ha
 obtain⟨x,y⟩:=Lz h k hkm
 exact(Tw x (by omega)).1
theorem LS {t:Tr} (h:t.ok) (hl:t.enc.length≤3010):(nmE (M0 t)).length≤63*t.enc.length+6:=by
 have hp:=t.parts
 have hm:=Wm (f:=fun k=>Cv (Em k)) (C:=63) (l:=t.ks) fun k hk=>by
  obtain⟨a,b⟩:=Lz h k hk
  exact(Tw a (by omega)).2
 have hf:((M0 t).map Cv).flatten.length≤63*(Tr.encs t.ks).length:=by
  unfold M0;rw[List.map_map];exact hm
 have h7:=Ar 0 16 true ((M0 t).map Cv).flatten (by omega)
 unfold nmE;omega
theorem Et:nmZ []:=⟨by simp,by simp,by simp⟩
theorem oJ {t:Tr} (h:t.ok) (hl:t.enc.length≤3006):(Bg t).zz:=by
 obtain⟨a1,a2⟩:=J8 h 0
 obtain⟨b1,b2⟩:=J8 h 1
 have p0:=t.parts
 have p1:=(t.kid 1).parts
 have v0:=M1 h 0
 have v1:=M1 a1 0
 have v2:=M1 b1 0
 have n0:=(AD a1 (by omega)).1
 have o0:=Qk (t.kid 0).v
 have o1:=Qk t.v
 have d0:=Jb 22 t.v
 have d1:=Jb ((t.kid 0).kid 0).n ((t.kid 0).kid 0).v
 have d2:=Jb ((t.kid 1).kid 0).n ((t.kid 1).kid 0).v
 obtain⟨c,n,k,b,ks⟩:=t
 simp only[Tr.v] at p0 o1 d0
 by_cases hn:n≤8
 ·rcases(by omega:n=0∨n=1∨n=2∨n=3∨n=4∨n=5∨n=6∨n=7∨n=8) with rfl|rfl|rfl|rfl|rfl|rfl|rfl|rfl|rfl
  ·exact⟨by show(odT _).length≤_;omega,by simp[Bg,Tr.n],by show(Tr.encs _).length≤_;omega,Et,by simp[Bg,Tr.n],by simp[Bg,Tr.n]⟩
  ·exact⟨by simp[Bg,Tr.n],by show(Cw 22 b).length≤_;omega,by simp[Bg,Tr.n],Et,by simp[Bg,Tr.n],by simp[Bg,Tr.n]⟩
  ·exact⟨by simp[Bg,Tr.n],by show(Cw 22 b).length≤_;omega,by simp[Bg,Tr.n],Et,by simp[Bg,Tr.n],by simp[Bg,Tr.n]⟩
  ·exact⟨by simp[Bg,Tr.n],by simp[Bg,Tr.n],by show(Tr.encs _).length≤_;omega,Et,by simp[Bg,Tr.n],by simp[Bg,Tr.n]⟩
  ·exact⟨by simp[Bg,Tr.n],by simp[Bg,Tr.n],by simp[Bg,Tr.n],n0,by simp[Bg,Tr.n],by simp[Bg,Tr.n]⟩
  ·show Gn.zz (if _ then _ else _)
   split
   ·exact⟨by simp,by simp,by simp,Et,Nat.le_trans d1 (by omega),Nat.le_trans d2 (by omega)⟩
   ·exact⟨by simp,by simp,by simp,Et,by simp,Nat.le_trans d1 (by omega)⟩
  ·exact⟨by simp[Bg,Tr.n],by show(Cw 22 b).length≤_;omega,by simp[Bg,Tr.n],Et,by simp[Bg,Tr.n],by simp[Bg,Tr.n]⟩
  ·exact⟨by simp[Bg,Tr.n],by simp[Bg,Tr.n],by show b.length≤_;omega,Et,by simp[Bg,Tr.n],by simp[Bg,Tr.n]⟩
  ·exact⟨Nat.le_trans o1 (by omega),by simp[Bg,Tr.n],by simp[Bg,Tr.n],Et,by simp[Bg,Tr.n],by simp[Bg,Tr.n]⟩
 ·obtain⟨m,rfl⟩:∃m,n=m+9:=⟨n-9,by omega⟩
  exact⟨by simp[Bg,Tr.n],by simp[Bg,Tr.n],by simp[Bg,Tr.n],Et,by simp[Bg,Tr.n],by simp[Bg,Tr.n]⟩
theorem AE {g:Gn} (h:g.zz) (hn:(nmE g.nm).length≤200000):((Eg g).getD []).length≤g.oid.length+g.by'.length+4*g.tx.length+(nmE g.nm).length+4*g.av.length+4*g.pv.length+60:=by
 have h1:=nM g.oid
 have:=h.o;have:=h.t;have:=h.b;have:=h.a;have:=h.p
 unfold Eg
 split
 ·split
  ·have h6:=Ar 0 6 false (Bo g.oid) (by omega)
   have h7:=Ar 2 0 true g.by' (by omega)
   show(_++_:List UInt8).length≤_
   rw[Ak];omega
  ·simp
 split
 ·split
  ·rename_i hv
   have:=Gu hv
   show(chS 22 g.tx).length≤_
   omega
  ·simp
 split
 ·show g.by'.length≤_;omega
 split
 ·split
  ·show(nmE g.nm).length≤_;omega
  ·simp
 split
 ·unfold My
  split
  ·rename_i hv
   rw[At] at hv
   have l2:=Gh hv.2 h.p
   have x2:=Ar 2 1 true (txE g.pk g.pv) (by omega)
   show((if _ then _ else _)++_:List UInt8).length≤_
   rw[Ak]
   split
   ·simp;omega
   ·rename_i hz
    have hz:zT g.ak g.av=false:=by simpa using hz
    rw[hz,Bool.false_or] at hv
    have l1:=Gh hv.1 h.a
    have x1:=Ar 2 0 true (txE g.ak g.av) (by omega)
    omega
  ·simp
 split
 ·split
  ·show(Bo g.oid).length≤_;omega
  ·simp
 ·simp
theorem FR {t:Tr} (h:t.ok) (hl:t.enc.length≤3006):(nmE (Bg t).nm).length≤200000:=by
 obtain⟨a1,a2⟩:=J8 h 0
 have h0:=(AD a1 (by omega)).2
 have hz:(nmE []).length≤200000:=by decide+kernel
 obtain⟨c,n,k,b,ks⟩:=t
 by_cases hn:n≤8
 ·rcases(by omega:n=0∨n=1∨n=2∨n=3∨n=4∨n=5∨n=6∨n=7∨n=8) with rfl|rfl|rfl|rfl|rfl|rfl|rfl|rfl|rfl
  ·exact hz
  ·exact hz
  ·exact hz
  ·exact hz
  ·exact h0
  ·show(nmE (Gn.nm (if _ then _ else _))).length≤_
   split
   ·exact hz
   ·exact hz
  ·exact hz
  ·exact hz
  ·exact hz
 ·obtain⟨m,rfl⟩:∃m,n=m+9:=⟨n-9,by omega⟩
  exact hz
def lO (g:Gn):List D:=[iD g.k,sD g.oid,sD g.tx,Af false g.by',Sv g.nm,iD g.ak,sD g.av,iD g.pk,sD g.pv]
def Wn (l:List Gn):D:=Fp true 9 lO l
theorem FS (g:Gn):D.uns (lO g)=gnC g:=by simp only[lO,gnC,D.uns,Aj,Bk,D.un]
theorem D.uns_app (a b:List D):D.uns (a++b)=D.uns a++D.uns b:=by
 induction a with
 |nil=>rfl
 |cons x r ih=>show D.un x::D.uns (r++b)=D.un x::(D.uns r++D.uns b);rw[ih]
theorem Tx (l:List Gn):D.uns (l.flatMap lO)=l.flatMap gnC:=by
 induction l with
 |nil=>rfl
 |cons g r ih=>rw[List.flatMap_cons,D.uns_app,FS,ih,List.flatMap_cons]
theorem Qq (l:List Gn):(Wn l).un=G3 l:=by
 show D.sl false l.length 9 (D.uns (l.flatMap lO))=_
 rw[Tx];rfl
theorem LT {α:Type} (f:α→Bool) {l:List α} {i:Nat} {x:α} (hg:l[i]?=some x) (hx:f x=false):l.all f=false:=by
 cases hh:l.all f with
 |false=>rfl
 |true=>rw[List.all_eq_true.1 hh x (Bi hg)] at hx;cases hx
theorem FT {b:List UInt8} (hb:b.length≤3000):(Cq b).ok∧(Cq b).enc.length≤3002:=by
 have:=ES b;exact⟨this.1,by omega⟩
theorem Qr {p:Prop} (h:p:=by first|rfl|(simp only[AV.gives,AV.ren,AV.give,D.un,D.uns,Aj,Am,List.nil_append,List.append_nil,List.cons_append,Av,A6,Cc,Bn,A8,B5,Cj,B6,Bk,Bw,Bd,Tr.cellss_un,Qq,Tx];first|done|rfl)):p:=h
structure gnsZ (l:List Gn):Prop where
 n:l.length≤100000
 z:∀g∈l,Gn.zz g
 e:(l.map gnE).flatten.length≤90000000
def M2 (l:List Gn):Bool:= !l.isEmpty&&l.all gnW
theorem Yy (l:List Gn) (hz:gnsZ l):Ab Tryz.prog 70 [.d (G3 l)] (fun r=>r=bv (M2 l)):=by
 obtain⟨hl,hs,-⟩:=hz
 unfold M2
 refine acQ 19 Tryz.func70 rfl rfl fun _ _ _=> ?_
 (all_goals(conv=>whnf))
 refine A1 (fun i:Nat=>i≤l.length∧(l.take i).all gnW=true) (fun i=>l.length-i) (fun i=>⟨[(0,.d (G3 l)),(3,iv i)],[],[]⟩) 0 ⟨by omega,rfl⟩ leQ ?_
 rintro i ⟨hi,ha⟩
 by_cases hik:i<l.length
 ·have gi:decide ((i:Int)<l.length)=true:=decide_eq_true (by omega)
  obtain⟨x,hg⟩:∃p,l[i]?=some p:=⟨_,An hik⟩
  have hV:=Fs x (hs x (Bi hg))
  cases h1:gnW x
  ·rw[h1] at hV
   rw[LT gnW hg h1,Bool.and_false]
   (repeat'((conv=>whnf);first|refine zP ?_|refine Ac ?_|refine NIdx.tab (fun _=>rfl) hg ?_|refine Aa hV Qr ?_|exact zE))
  ·rw[h1] at hV
   (repeat'((conv=>whnf);first|refine zP ?_|refine Ae ?_|refine NIdx.tab (fun _=>rfl) hg ?_|refine Aa hV Qr ?_|(with_reducible refine NInt.i64 ?_)));(all_goals(conv=>whnf))
   refine⟨i+1,⟨by omega,Is gnW hg h1 ha⟩,by omega,?_⟩
   exact leQ
 ·have gi:decide ((i:Int)<l.length)=false:=decide_eq_false (by omega)
  obtain rfl:i=l.length:=by omega
  rw[List.take_length] at ha
  rw[ha,Bool.and_true,show(!l.isEmpty)=decide ((l.length:Int)>0) by cases l with|nil=>rfl|cons a r=>exact(decide_eq_true (by simp only[Ag];omega)).symm]
  (repeat'((conv=>whnf);refine zN ?_));(all_goals(conv=>whnf))
  all_goals exact zE
theorem gJ (x:UInt8) (l:List Gn) (hz:gnsZ l) (hv:l.all gnW=true):Ab Tryz.prog 84 [cv x.toNat,.d (G3 l)] (fun r=>r=A7 0 5 (J3 x (l.map gnE).flatten)):=by
 have hU:=Fv x (l.map gnE) (by rw[List.length_map];have:=hz.n;omega) (by have:=hz.e;omega)
 obtain⟨hl,hs,-⟩:=hz
 refine acQ 30 Tryz.func84 rfl rfl fun _ _ _=> ?_
 (all_goals(conv=>whnf))
 refine Bb [.s 5 1 33] (fun i:Nat=>i≤l.length) (fun i=>l.length-i) (fun i=>⟨[(0,cv x.toNat),(1,.d (G3 l)),(5,Bw 5 1 33 Du ((l.take i).map gnE)),(6,iv i)],[],[(5,(((l.take i).map gnE).length,1,33))]⟩) 0 (by omega) leQ ?_
 rintro i hi
 have hml:((l.take i).map gnE).length≤100000:=by rw[List.length_map,Ao];omega
 by_cases hik:i<l.length
 ·have gi:decide ((i:Int)<l.length)=true:=decide_eq_true (by omega)
  obtain⟨g,hg⟩:∃p,l[i]?=some p:=⟨_,An hik⟩
  have hM:=zZ g (hs g (Bi hg))
  rw[List.all_eq_true.1 hv g (Bi hg)] at hM
  have hM:Ab Tryz.prog 118 [gnA g] (fun r=>r= .tup [A7 0 5 (gnE g),iv 0]):=hM
  have hs1:=G7 gnE hg
  generalize gnE g=e at hM hs1
  (repeat'((conv=>whnf);first|refine zP ?_|refine NIdx.tab (fun _=>rfl) hg ?_|refine Aa hM Qr ?_|refine A4 Du e ?_|(with_reducible refine NInt.i64 ?_)));(all_goals(conv=>whnf))
  refine⟨i+1,by omega,by omega,?_⟩
  rw[hs1]
  exact leQ
 ·have gi:decide ((i:Int)<l.length)=false:=decide_eq_false (by omega)
  obtain rfl:i=l.length:=by omega
  rw[List.take_length]
  (repeat'((conv=>whnf);first|refine zN ?_|refine Aa hU Qr ?_|exact zE))
theorem Yz (t:Tr) (hn:t.ks.length≤100000) (hk:∀k∈t.ks,k.gn):Ab Tryz.prog 81 [trF t] (fun r=>r= .d (Wn (t.ks.map Bg))):=by
 obtain⟨c,n,k,b,ks⟩:=t
 rw[Bt]
 simp only[Tr.ks] at hn hk⊢
 refine acQ 22 Tryz.func81 rfl rfl fun _ _ _=> ?_
 (all_goals(conv=>whnf))
 refine Bb [.s 3 9 58] (fun i:Nat=>i≤ks.length) (fun i=>ks.length-i) (fun i=>⟨[(1,.ptr 1 0),(3,Bw 3 9 58 lO ((ks.take i).map Bg)),(4,iv i)],[(1,[iv c,iv n,bv k,.d (Af false b),.d (.sl false ks.length 5 (Tr.cellss false ks))])],[(3,(((ks.take i).map Bg).length,9,58))]⟩) 0 (by omega) leQ ?_
 rintro i hi
 have hml:((ks.take i).map Bg).length≤100000:=by rw[List.length_map,Ao];omega
 by_cases hik:i<ks.length
 ·have gi:decide ((i:Int)<ks.length)=true:=decide_eq_true (by omega)
  obtain⟨x,hg⟩:∃p,ks[i]?=some p:=⟨_,An hik⟩
  have hR:=AA x (hk x (Bi hg))
  have hs:=G7 Bg hg
  generalize Bg x=a at hR hs
  obtain⟨c',n',k',b',ks'⟩:=x
  rw[Bt] at hR
  (repeat'((conv=>whnf);first|refine zP ?_|(refine Dd hg ?_)|refine Aa hR Qr ?_|refine A4 lO a ?_|(with_reducible refine NInt.i64 ?_)));(all_goals(conv=>whnf))
  refine⟨i+1,by omega,by omega,?_⟩
  rw[hs]
  exact leQ
 ·have gi:decide ((i:Int)<ks.length)=false:=decide_eq_false (by omega)
  obtain rfl:i=ks.length:=by omega
  rw[List.take_length]
  (repeat'((conv=>whnf);refine zN ?_));(all_goals(conv=>whnf))
  all_goals exact zE
theorem AF {t:Tr} (h:t.ok) (hl:t.enc.length≤3006):(Bg t).oid.length≤21*t.enc.length+63∧(Bg t).by'.length≤t.enc.length+2∧(Bg t).tx.length≤4*t.enc.length∧(nmE (Bg t).nm).length≤63*t.enc.length+140∧(Bg t).av.length≤4*t.enc.length+16∧(Bg t).pv.length≤4*t.enc.length+16:=by
 obtain⟨a1,a2⟩:=J8 h 0
 obtain⟨b1,b2⟩:=J8 h 1
 have p0:=t.parts
 have p1:=(t.kid 1).parts
 have v0:=M1 h 0
 have v1:=M1 a1 0
 have v2:=M1 b1 0
 have n0:=LS a1 (by omega)
 have o0:=Qk (t.kid 0).v
 have o1:=Qk t.v
 have d0:=Jb 22 t.v
 have d1:=Jb ((t.kid 0).kid 0).n ((t.kid 0).kid 0).v
 have d2:=Jb ((t.kid 1).kid 0).n ((t.kid 1).kid 0).v
 have hz:(nmE []).length=2:=by decide+kernel
 have z0:([]:List UInt8).length=0:=rfl
 obtain⟨c,n,k,b,ks⟩:=t
 generalize he:(Tr.mk c n k b ks).enc.length=e at*
 by_cases hn:n≤8
 ·rcases(by omega:n=0∨n=1∨n=2∨n=3∨n=4∨n=5∨n=6∨n=7∨n=8) with rfl|rfl|rfl|rfl|rfl|rfl|rfl|rfl|rfl
  case inr.inr.inr.inr.inr.inl=>
   rw[show Bg (.mk c 5 k b ks)=if isT ((Tr.mk c 5 k b ks).kid 0) 2 0 true then⟨5,[],[],[],[],N0 (((Tr.mk c 5 k b ks).kid 0).kid 0),N1 (((Tr.mk c 5 k b ks).kid 0).kid 0),N0 (((Tr.mk c 5 k b ks).kid 1).kid 0),N1 (((Tr.mk c 5 k b ks).kid 1).kid 0)⟩ else⟨5,[],[],[],[],0,[],N0 (((Tr.mk c 5 k b ks).kid 0).kid 0),N1 (((Tr.mk c 5 k b ks).kid 0).kid 0)⟩ from rfl]
   split
   ·exact⟨Nat.le_trans (Nat.le_of_eq z0) (by omega),Nat.le_trans (Nat.le_of_eq z0) (by omega),Nat.le_trans (Nat.le_of_eq z0) (by omega),Nat.le_trans (Nat.le_of_eq hz) (by omega),Nat.le_trans d1 (by omega),Nat.le_trans d2 (by omega)⟩
   ·exact⟨Nat.le_trans (Nat.le_of_eq z0) (by omega),Nat.le_trans (Nat.le_of_eq z0) (by omega),Nat.le_trans (Nat.le_of_eq z0) (by omega),Nat.le_trans (Nat.le_of_eq hz) (by omega),Nat.le_trans (Nat.le_of_eq z0) (by omega),Nat.le_trans d1 (by omega)⟩
  all_goals(refine⟨?_,?_,?_,?_,?_,?_⟩<;>first|exact Nat.le_trans o0 (by omega)|exact Nat.le_trans o1 (by omega)|exact Nat.le_trans d0 (by omega)|exact Nat.le_trans n0 (by omega)|exact Nat.le_trans (Nat.le_of_eq hz) (by omega)|exact Nat.le_trans (Nat.le_of_eq z0) (by omega)|(show(Tr.encs _).length≤_;omega)|(show b.length≤_;simp only[Tr.v] at p0;omega))
 ·obtain⟨m,rfl⟩:∃m,n=m+9:=⟨n-9,by omega⟩
  refine⟨?_,?_,?_,?_,?_,?_⟩<;>first|exact Nat.le_trans (Nat.le_of_eq hz) (by omega)|exact Nat.le_trans (Nat.le_of_eq z0) (by omega)
theorem AG {t:Tr} (h:t.ok) (hl:t.enc.length≤3006):(gnE (Bg t)).length≤400*t.enc.length:=by
 obtain⟨q1,q2,q3,q4,q5,q6⟩:=AF h hl
 have hc:=AE (oJ h hl) (FR h hl)
 have he:=t.enc_two
 have:=Ar 2 (Bg t).k.toNat (D0 (Bg t).k) ((Eg (Bg t)).getD []) (by omega)
 unfold gnE;omega
theorem D8 (c n:Nat) (k:Bool) (l:List UInt8):l.length+2≤(Ah c n k l).length:=by
 have:=Yx l.length
 unfold Ah;rw[E8];omega
theorem Qs {α:Type} (f:α→List UInt8) (k:Nat):∀{l:List α},(∀x∈l,k≤(f x).length)→k*l.length≤(l.map f).flatten.length
 |[],_=>by simp
 |x::r,h=>by
  have h1:=h x (by simp)
  have h2:=Qs f k (l:=r) fun y hy=>h y (by simp[hy])
  rw[List.map_cons,List.flatten_cons,Ak,Ag,Nat.mul_add];omega
theorem NS {a:Att} (h:atV a=true) (hl:(atE a).length≤400000):a.sm∧4≤(atE a).length:=by
 obtain⟨h1,-⟩:=Tq h
 have h3:=Vr h1
 have h4:=D8 0 6 false (Bo a.oid)
 have h5:=D8 0 16 true (Ah 0 6 false (Bo a.oid)++a.val)
 rw[Ak] at h5
 have e:(atE a).length=(Ah 0 16 true (Ah 0 6 false (Bo a.oid)++a.val)).length:=rfl
 exact⟨⟨by omega,by omega⟩,by omega⟩
theorem AH {r:List Att} (h:Ed r=true) (hl:(Cv r).length≤400000):rdnZ r∧4≤(Cv r).length:=by
 obtain⟨h0,h1,-⟩:=Nq h
 have h2:=D8 0 17 true (r.map atE).flatten
 have e:(Cv r).length=(Ah 0 17 true (r.map atE).flatten).length:=rfl
 have h3:∀a∈r,a.sm∧4≤(atE a).length:=fun a ha=>by
  have:=H3 (List.mem_map_of_mem (f:=atE) ha)
  exact NS (List.all_eq_true.1 h1 a ha) (by omega)
 have h4:=Qs atE 4 fun a ha=>(h3 a ha).2
 have h5:1≤r.length:=by cases r with|nil=>exact absurd rfl h0|cons _ _=>simp
 exact⟨⟨by omega,fun a ha=>(h3 a ha).1,by omega⟩,by omega⟩
theorem NT {n:List (List Att)} (h:nmV n=true) (hl:(nmE n).length≤400000):nmZ n:=by
 have h2:=D8 0 16 true (n.map Cv).flatten
 have e:(nmE n).length=(Ah 0 16 true (n.map Cv).flatten).length:=rfl
 have h3:∀r∈n,rdnZ r∧4≤(Cv r).length:=fun r hr=>by
  have:=H3 (List.mem_map_of_mem (f:=Cv) hr)
  exact AH (List.all_eq_true.1 h r hr) (by omega)
 have h4:=Qs Cv 4 fun r hr=>(h3 r hr).2
 exact⟨by omega,fun r hr=>(h3 r hr).1,by omega⟩
theorem AI {k:Int} {l:List UInt8} (h:Al k l=true):l.length≤4*(chS k l).length:=by
 have:=Jb k (chS k l)
 rwa[(Ry h).2.1] at this
theorem AJ {k:Int} {l:List UInt8} (h:Al k l=true):l.length≤4*(txE k l).length:=by
 have h1:=AI h
 have h2:=D8 0 k.toNat false (chS k l)
 unfold txE;omega
theorem FU {g:Gn} (h:gnW g=true) (hl:(gnE g).length≤400000):g.mid:=by
 obtain⟨h1,-,⟨c,h3⟩,h4⟩:=(Nr g).1 h
 have hc:c.length≤400000:=by
  have:=D8 2 g.k.toNat (D0 g.k) ((Eg g).getD [])
  have e:(gnE g).length=(Ah 2 g.k.toNat (D0 g.k) ((Eg g).getD [])).length:=rfl
  rw[h3] at this e
  have e2:((some c).getD [])=c:=rfl
  rw[e2] at this e;omega
 refine⟨?_,by rw[h3];show c.length≤_;omega⟩
 obtain⟨m,hm,hk⟩:=O9 h3
 obtain⟨k,oid,tx,by',nm,ak,av,pk,pv⟩:=g
 rw[D3] at h1
 obtain⟨a1,a2,a3,a4,a5⟩:=h1
 simp only at hk a1 a2 a3 a4 a5
 subst hk
 unfold Eg at h3
 simp only at h3
 have l0:([]:List UInt8).length=0:=rfl
 rcases(by omega:m=0∨m=1∨m=2∨m=3∨m=4∨m=5∨m=6∨m=7∨m=8) with rfl|rfl|rfl|rfl|rfl|rfl|rfl|rfl|rfl
 ·obtain rfl:tx=[]:=by simpa using a2
  obtain rfl:nm=[]:=by simpa using a4
  obtain⟨⟨rfl,rfl⟩,rfl,rfl⟩:(ak=0∧av=[])∧pk=0∧pv=[]:=by simpa using a5
  rw[if_pos (by rfl)] at h3
  by_cases ho:E4 oid=true
  ·rw[if_pos ho] at h3
   obtain rfl:=Option.some.inj h3
   have:=Vr ho
   have:=D8 0 6 false (Bo oid)
   have:=D8 2 0 true by'
   rw[Ak] at hc
   exact⟨by show oid.length≤_;omega,by simp,by show by'.length≤_;omega,Et,by simp,by simp⟩
  ·rw[if_neg ho] at h3;cases h3
 case inr.inr.inr.inl=>
  obtain rfl:oid=[]:=by simpa using a1
  obtain rfl:tx=[]:=by simpa using a2
  obtain rfl:nm=[]:=by simpa using a4
  obtain⟨⟨rfl,rfl⟩,rfl,rfl⟩:(ak=0∧av=[])∧pk=0∧pv=[]:=by simpa using a5
  rw[if_neg (by decide),if_neg (by decide),if_pos (by decide)] at h3
  obtain rfl:=Option.some.inj h3
  exact⟨by simp,by simp,by show by'.length≤_;omega,Et,by simp,by simp⟩
 case inr.inr.inr.inr.inl=>
  obtain rfl:oid=[]:=by simpa using a1
  obtain rfl:tx=[]:=by simpa using a2
  obtain rfl:by'=[]:=by simpa using a3
  obtain⟨⟨rfl,rfl⟩,rfl,rfl⟩:(ak=0∧av=[])∧pk=0∧pv=[]:=by simpa using a5
  rw[if_neg (by decide),if_neg (by decide),if_neg (by decide),if_pos (by rfl)] at h3
  by_cases ho:nmV nm=true
  ·rw[if_pos ho] at h3
   obtain rfl:=Option.some.inj h3
   exact⟨by simp,by simp,by simp,NT ho hc,by simp,by simp⟩
  ·rw[if_neg ho] at h3;cases h3
 case inr.inr.inr.inr.inr.inl=>
  obtain rfl:oid=[]:=by simpa using a1
  obtain rfl:tx=[]:=by simpa using a2
  obtain rfl:by'=[]:=by simpa using a3
  obtain rfl:nm=[]:=by simpa using a4
  rw[if_neg (by decide),if_neg (by decide),if_neg (by decide),if_neg (by decide),if_pos (by rfl)] at h3
  unfold My at h3
  simp only at h3
  by_cases hh:((zT ak av||Al ak av)&&Al pk pv)=true
  ·rw[if_pos hh] at h3
   obtain rfl:=Option.some.inj h3
   rw[At,Bool.or_eq_true] at hh
   have k1:=AJ hh.2
   have k2:=D8 2 1 true (txE pk pv)
   rw[Ak] at hc
   refine⟨by simp,by simp,by simp,Et,?_,by show pv.length≤_;omega⟩
   show av.length≤_
   by_cases hz:zT ak av=true
   ·rw[(Rz.1 hz).2];simp
   ·rw[if_neg hz] at hc
    have k3:=AJ (hh.1.resolve_left hz)
    have k4:=D8 2 0 true (txE ak av)
    omega
  ·rw[if_neg hh] at h3;cases h3
 case inr.inr.inr.inr.inr.inr.inr.inl=>
  obtain rfl:oid=[]:=by simpa using a1
  obtain rfl:tx=[]:=by simpa using a2
  obtain rfl:nm=[]:=by simpa using a4
  obtain⟨⟨rfl,rfl⟩,rfl,rfl⟩:(ak=0∧av=[])∧pk=0∧pv=[]:=by simpa using a5
  rw[if_neg (by decide),if_neg (by decide),if_pos (by decide)] at h3
  obtain rfl:=Option.some.inj h3
  exact⟨by simp,by simp,by show by'.length≤_;omega,Et,by simp,by simp⟩
 case inr.inr.inr.inr.inr.inr.inr.inr=>
  obtain rfl:tx=[]:=by simpa using a2
  obtain rfl:by'=[]:=by simpa using a3
  obtain rfl:nm=[]:=by simpa using a4
  obtain⟨⟨rfl,rfl⟩,rfl,rfl⟩:(ak=0∧av=[])∧pk=0∧pv=[]:=by simpa using a5
  rw[if_neg (by decide),if_neg (by decide),if_neg (by decide),if_neg (by decide),if_neg (by decide),if_pos (by rfl)] at h3
  by_cases ho:E4 oid=true
  ·rw[if_pos ho] at h3
   obtain rfl:=Option.some.inj h3
   have:=Vr ho
   exact⟨by show oid.length≤_;omega,by simp,by simp,Et,by simp,by simp⟩
  ·rw[if_neg ho] at h3;cases h3
 all_goals
  obtain rfl:oid=[]:=by simpa using a1
  obtain rfl:by'=[]:=by simpa using a3
  obtain rfl:nm=[]:=by simpa using a4
  obtain⟨⟨rfl,rfl⟩,rfl,rfl⟩:(ak=0∧av=[])∧pk=0∧pv=[]:=by simpa using a5
  rw[if_neg (by decide),if_pos (by decide)] at h3
  by_cases ho:Al 22 tx=true
  ·rw[if_pos ho] at h3
   obtain rfl:=Option.some.inj h3
   have:=AI ho
   exact⟨by simp,by show tx.length≤_;omega,by simp,Et,by simp,by simp⟩
  ·rw[if_neg ho] at h3;cases h3
theorem Wo {l:List Gn} (h:l.all gnW=true) (hl:(l.map gnE).flatten.length≤400000):gnsM l:=by
 have hm:∀g∈l,g.mid:=fun g hg=>by
  have:=H3 (List.mem_map_of_mem (f:=gnE) hg)
  exact FU (List.all_eq_true.1 h g hg) (by omega)
 have h4:=Qs gnE 2 (l:=l) fun g _=>by
  have:=D8 2 g.k.toNat (D0 g.k) ((Eg g).getD [])
  unfold gnE;omega
 exact⟨by omega,hm,by omega⟩
def lP (g:Gn):List D:=[iD g.k,sD g.oid,sD g.tx,Af true g.by',Sv g.nm,iD g.ak,sD g.av,iD g.pk,sD g.pv]
def N2 (l:List Gn):D:=Fp true 9 lP l
theorem Qt (g:Gn):D.uns (lP g)=gnC g:=by simp only[lP,gnC,D.uns,Aj,Bk,D.un]
theorem Qu (l:List Gn):D.uns (l.flatMap lP)=l.flatMap gnC:=by
 induction l with
 |nil=>rfl
 |cons g r ih=>rw[List.flatMap_cons,D.uns_app,Qt,ih,List.flatMap_cons]
theorem Ns (l:List Gn):(N2 l).un=G3 l:=by
 show D.sl false l.length 9 (D.uns (l.flatMap lP))=_
 rw[Qu];rfl
theorem oK {l:List Gn} (h:∀g∈l,g.mid):bC l=M2 l:=by
 unfold bC M2
 congr 1
 induction l with
 |nil=>rfl
 |cons a r ih=>rw[List.all_cons,List.all_cons,KJ (h a (by simp)),ih fun g hg=>h g (by simp[hg])]
theorem Wp (l:List Gn) (h:gnsM l):Ab Tryz.prog 48 [.d (G3 l)] (fun r=>r=O8 (M2 l) (S4 l)):=by
 have hM:=Sw l h
 rwa[oK h.m] at hM
theorem Wq (l:List Gn) (h:gnsM l):Ab Tryz.prog 52 [.d (G3 l)] (fun r=>r=bv (M2 l)):=by
 have hM:=fT l h
 rwa[oK h.m] at hM
theorem LU {g:Gn} (h:gnW g=true) (hs:g.mid):∃t:Tv,t.ok∧gnE g=t.enc:=by
 obtain⟨-,-,⟨c,h3⟩,-⟩:=(Nr g).1 h
 obtain⟨n,hn,hk⟩:=O9 h3
 exact⟨⟨2,g.k.toNat,D0 g.k,(Eg g).getD []⟩,⟨by show(2:Nat)≤3;omega,by show g.k.toNat≤30;omega,by have:=hs.c;show((Eg g).getD []).length≤_;omega⟩,rfl⟩
theorem oL {l:List Gn} (h:l.all gnW=true) (hs:gnsM l) (c n:Nat) (hc:c≤3) (hn:n≤30):∃ks,okT 21 (Ah c n true (l.map gnE).flatten) (.mk c n true [] ks)∧ks.map Bg=l:=by
 have hm:∀p∈l.map gnE,One 20 p∧p.length≤2147483647:=fun p hp=>by
  obtain⟨g,hg,rfl⟩:=List.mem_map.1 hp
  obtain⟨t,h1,-⟩:=zR (List.all_eq_true.1 h g hg) (hs.m g hg)
  have:=EY (hs.m g hg)
  exact⟨h1.1,by omega⟩
 have:=hs.e
 obtain⟨c1,c2⟩:=Lg (d:=20) (c:=c) (n:=n) (l.map gnE) hc hn hm (by omega)
 refine⟨_,⟨c1,c2⟩,?_⟩
 rw[List.map_map,List.map_map]
 conv=>rhs;rw[←List.map_id l]
 exact List.map_congr_left fun g hg=>by
  obtain⟨t,h1,h2,-⟩:=zR (List.all_eq_true.1 h g hg) (hs.m g hg)
  show Bg (trD 20 (gnE g))=g
  rw[h1.2];exact h2
def gpS:List (List UInt8)→Option (List Gn)
 |[]=>some []
 |p::r=>match L1 p with
  |none=>none
  |some g=>(gpS r).map (g:: ·)
def gpL (b:List UInt8):List El→Option (List Gn)×Nat×Nat
 |[]=>(some [],0,0)
 |x::r=>match L1 (elO b x) with
  |none=>(none,(Wb (elO b x)).1,x.at'+(Wb (elO b x)).2)
  |some g=>match gpL b r with
   |(some gs,_)=>(some (g::gs),0,0)
   |(none,p)=>(none,p)
def Wr (ms:List Gn):Option (List Gn)×Nat×Nat→Option (List Gn)×Nat×Nat
 |(some r,_)=>(some (ms++r),0,0)
 |(none,p)=>(none,p)
theorem Ws (b:List UInt8):∀l:List El,(gpL b l).1.isSome=true→(gpL b l).2=(0,0)
 |[],_=>rfl
 |x::r,h=>by
  rw[gpL] at h⊢
  cases hv:L1 (elO b x) with
  |none=>rw[hv] at h;cases h
  |some m=>
   rw[hv] at h
   cases hp:gpL b r with
   |mk o p=>rw[hp] at h;cases o with
    |none=>cases h
    |some ms=>rfl
theorem tF (b:List UInt8) (l:List El):Wr [] (gpL b l)=gpL b l:=by
 have h:=Ws b l
 cases hp:gpL b l with
 |mk o p=>
  rw[hp] at h
  cases o with
  |none=>rfl
  |some ms=>have:=h rfl;simp only at this;subst this;rfl
theorem lQ {b:List UInt8} {x:El} {r:List El} {m:Gn} (ms:List Gn) (hv:L1 (elO b x)=some m):Wr ms (gpL b (x::r))=Wr (ms++[m]) (gpL b r):=by
 rw[gpL,hv]
 cases hp:gpL b r with
 |mk o p=>cases o with
  |none=>rfl
  |some l=>simp[Wr]
theorem bK (b:List UInt8):∀l:List El,(gpL b l).1=gpS (l.map (elO b))
 |[]=>rfl
 |x::r=>by
  have ih:=bK b r
  rw[gpL,List.map_cons,gpS]
  cases hv:L1 (elO b x) with
  |none=>rfl
  |some m=>
   simp only
   rw[←ih]
   cases hp:gpL b r with
   |mk o p=>cases o<;>rfl
theorem oM {b:List UInt8}:∀{l:List El},(∀x∈l,x.at'≤x.stop∧x.stop≤b.length)→(gpL b l).1=none→(gpL b l).2.1≠0∧(gpL b l).2.2≤b.length
 |[],_,h=>by cases h
 |x::r,hx,h=>by
  have ih:=oM (b:=b) (l:=r) fun y hy=>hx y (by simp[hy])
  rw[gpL] at h⊢
  cases hv:L1 (elO b x) with
  |none=>
   obtain⟨e1,e2⟩:=bB (elO b x)
   have:=V6 b x
   obtain⟨x1,x2⟩:=hx x (by simp)
   exact⟨e1,by show x.at'+_≤_;omega⟩
  |some m=>
   rw[hv] at h
   cases hp:gpL b r with
   |mk o p=>
    rw[hp] at h ih
    cases o with
    |none=>exact ih rfl
    |some ms=>cases h
theorem oN:∀{v:List Gn},v.all gnW=true→(∀m∈v,m.mid)→gpS (v.map gnE)=some v
 |[],_,_=>rfl
 |m::r,h,hs=>by
  rw[List.all_cons,At] at h
  rw[List.map_cons,gpS,gA h.1 (hs m (by simp)),oN h.2 fun k hk=>hs k (by simp[hk])];rfl
theorem oO:∀{ps:List (List UInt8)} {v:List Gn},(∀p∈ps,p.length≤800000)→gpS ps=some v→v.all gnW=true∧ps=v.map gnE
 |[],v,_,h=>by
  rw[gpS] at h
  obtain rfl:=Option.some.inj h
  exact⟨rfl,rfl⟩
 |p::r,v,hl,h=>by
  rw[gpS] at h
  cases hv:L1 p with
  |none=>rw[hv] at h;cases h
  |some m=>
   rw[hv] at h
   cases hr:gpS r with
   |none=>rw[hr] at h;cases h
   |some w=>
    rw[hr] at h
    obtain rfl:=Option.some.inj h
    obtain⟨k1,k2⟩:=yS hv (hl p (by simp))
    obtain⟨k3,k4⟩:=oO (fun q hq=>hl q (by simp[hq])) hr
    exact⟨by rw[List.all_cons,k1,k3];rfl,by rw[List.map_cons,←k2,←k4]⟩
def bL (b:List UInt8):Option (List Gn)×Nat×Nat:=
 if(Bc b 0 16).code≠0 then(none,(Bc b 0 16).code,(Bc b 0 16).off) else if(Bc b 0 16).l=[] then(none,1,b.length) else gpL b (Bc b 0 16).l
def OO:Option (List Gn)×Nat×Nat→AV
 |(some gs,_)=> .tup [.d (N2 gs),erA 0 0]
 |(none,c,p)=> .tup [A3,erA c p]
theorem oP (b:List UInt8) (hb:b.length≤800000):(∃v:List Gn,v≠[]∧v.all gnW=true∧b=S4 v∧bL b=(some v,0,0))∨(∃c o:Nat,c≠0∧o≤b.length∧bL b=(none,c,o)):=by
 unfold bL
 by_cases h1:(Bc b 0 16).code≠0
 ·rw[if_pos h1]
  exact .inr ⟨_,_,h1,I7 b 0 16,rfl⟩
 rw[if_neg h1]
 have h1':=Decidable.not_not.1 h1
 obtain⟨ts,t1,t2,-,-,-⟩:=Ky h1'
 have hlt:(Di ts).length≤800000:=by
  have:=congrArg List.length t2
  unfold Ah at this
  rw[E8] at this;omega
 obtain⟨q,e1,e2⟩:=Gt (c:=0) (n:=16) ts (by omega) (by omega) t1 (by omega)
 rw[←t2] at e1 e2
 rw[e1]
 by_cases h2:els q ts=[]
 ·rw[if_pos h2];exact .inr ⟨1,b.length,by omega,Nat.le_refl _,rfl⟩
 rw[if_neg h2]
 have hf:=bK b (els q ts)
 rw[e2] at hf
 have hoff:=oM (b:=b) (l:=els q ts) fun x hx=>by
  have:=Ey (b:=b) (c:=0) (n:=16) (x:=x) (by rw[e1];exact hx)
  omega
 have hz:=Ws b (els q ts)
 show(∃v:List Gn,v≠[]∧v.all gnW=true∧b=S4 v∧gpL b (els q ts)=(some v,0,0))∨(∃c o:Nat,c≠0∧o≤b.length∧gpL b (els q ts)=(none,c,o))
 cases hp:gpL b (els q ts) with
 |mk o p=>
  rw[hp] at hf hoff hz
  obtain⟨c,p⟩:=p
  simp only at hf hoff hz
  cases o with
  |none=>exact .inr ⟨c,p,(hoff rfl).1,(hoff rfl).2,rfl⟩
  |some v=>
   obtain⟨k1,k2⟩:=oO (fun p hp=>by
    have:=H3 hp
    rw[←Fq] at this;omega) hf.symm
   have hz:=hz rfl
   simp only[Prod.mk.injEq] at hz
   obtain⟨rfl,rfl⟩:=hz
   refine .inl ⟨v,?_,k1,?_,rfl⟩
   ·rintro rfl
    cases ts with
    |nil=>exact h2 rfl
    |cons t r=>simp at k2
   ·rw[t2]
    unfold S4
    rw[Fq,k2]
theorem LV {v:List Gn} (h:v.all gnW=true) (hs:gnsM v):∃ts:List Tv,(∀t∈ts,t.ok)∧v.map gnE=ts.map Tv.enc:=
 To fun p hp=>by
  obtain⟨m,hm,rfl⟩:=List.mem_map.1 hp
  exact LU (List.all_eq_true.1 h m hm) (hs.m m hm)
theorem FV {v:List Gn} (h0:v≠[]) (h:v.all gnW=true) (hs:gnsM v):bL (S4 v)=(some v,0,0):=by
 obtain⟨ts,t1,t2⟩:=LV h hs
 have hfl:(v.map gnE).flatten=Di ts:=by rw[t2,Fq]
 have:=hs.e
 obtain⟨q,e1,e2⟩:=Gt (c:=0) (n:=16) ts (by omega) (by omega) t1 (by rw[←hfl];omega)
 have hf:=bK (Ah 0 16 true (Di ts)) (els q ts)
 rw[e2,←t2,oN h hs.m] at hf
 unfold bL S4
 rw[hfl,e1,if_neg (by simp),if_neg (by
  intro e
  have:=congrArg List.length e
  rw[aS] at this
  have h3:=congrArg List.length t2
  rw[List.length_map,List.length_map] at h3
  exact h0 (List.eq_nil_of_length_eq_zero (by rw[h3];exact this)))]
 have hz:=Ws (Ah 0 16 true (Di ts)) (els q ts) (by rw[hf];rfl)
 exact Prod.ext hf hz
theorem Qv {p:Prop} (h:p:=by first|rfl|(simp only[AV.gives,AV.ren,AV.give,D.un,D.uns,Aj,Am,List.nil_append,List.append_nil,List.cons_append,Av,A6,Cc,Bn,A8,B5,Cj,B6,Bk,Bw,Bd,Ns,Qt,Qu,Er,Es];first|done|rfl)):p:=h
theorem gK (b:List UInt8) (hb:b.length≤800000):Ab Tryz.prog 109 [.d (Af false b)] (fun r=>r=OO (bL b)):=by
 have hP:=Kp b 0 16 (by omega)
 have hin:=fun x=>Ey (b:=b) (c:=0) (n:=16) (x:=x)
 have hcn:=Lf b 0 16
 unfold bL
 generalize Bc b 0 16=R at hP hin hcn⊢
 by_cases h1:R.code≠0
 ·rw[if_pos h1]
  rw[lrA,if_pos h1] at hP
  have gc:((R.code:Int) !=0)=true:=by rw[bne_iff_ne];omega
  generalize R.code=c at hP gc
  generalize R.off=o at hP
  refine acQ 60 Tryz.func109 rfl rfl fun _ _ _=> ?_
  (repeat'((conv=>whnf);first|refine zP ?_|refine Aa hP Qv ?_|refine zF ?_|exact zE))
 rw[if_neg h1]
 rw[lrA,if_neg h1] at hP
 generalize R.l=l at hP hin hcn⊢
 by_cases h2:l=[]
 ·subst h2
  rw[if_pos rfl]
  refine acQ 60 Tryz.func109 rfl rfl fun _ _ _=> ?_
  (repeat'((conv=>whnf);first|refine Ac ?_|refine Ae ?_|refine Aa hP Qv ?_|exact zE))
 rw[if_neg h2]
 have gl:((l.length:Int)==0)=false:=by rw[beq_eq_false_iff_ne];intro h;exact h2 (List.eq_nil_of_length_eq_zero (by omega))
 have hd0:gpL b l=Wr [] (gpL b (l.drop 0)):=by rw[tF,List.drop_zero]
 generalize hQ:gpL b l=q at hd0⊢
 refine acQ 60 Tryz.func109 rfl rfl fun _ _ _=> ?_
 (repeat'((conv=>whnf);first|refine zN ?_|refine Ae ?_|refine Aa hP Qv ?_));(all_goals(conv=>whnf))
 refine Bb [.s 6 9 58] (fun z:Nat×List Gn=>z.1≤l.length∧z.2.length≤z.1∧q=Wr z.2 (gpL b (l.drop z.1))) (fun z=>l.length-z.1) (fun z=>⟨[(0,.d (Af false b)),(3,.ptr 3 0),(6,Bw 6 9 58 lP z.2),(26,.d (kO l)),(27,iv l.length),(28,iv z.1)],[(3,[iv 0,iv 0])],[(6,(z.2.length,9,58))]⟩) (0,[]) ⟨by simp,by simp,hd0⟩ leQ ?_
 rintro⟨i,ms⟩ ⟨hi,hm,he⟩
 simp only at hi hm he
 by_cases hik:i<l.length
 ·have gi:decide ((i:Int)<l.length)=true:=decide_eq_true (by omega)
  obtain⟨x,hg⟩:∃p,l[i]?=some p:=⟨_,An hik⟩
  obtain⟨x1,x2,x3⟩:=hin x (Bi hg)
  have hel:=Tt b x
  have hO:=We (elO b x) (by omega)
  obtain⟨hc0,hof⟩:=bB (elO b x)
  rw[Rv hg] at he
  cases hp:L1 (elO b x) with
  |none=>
   have bad:q=(none,(Wb (elO b x)).1,x.at'+(Wb (elO b x)).2):=by rw[he,gpL,hp];rfl
   rw[bad]
   rw[hp] at hO
   generalize Wb (elO b x)=e at hO hc0 hof
   obtain⟨c,o⟩:=e
   simp only at hc0 hof
   have hO:Ab Tryz.prog 68 [.d (Af false (elO b x))] (fun r=>r= .tup [gnQ gz,erA c o]):=hO
   have gc:((c:Int) !=0)=true:=by rw[bne_iff_ne];omega
   unfold elO at hO
   (repeat'((conv=>whnf);first|refine zP ?_|refine NIdx.tab (fun _=>rfl) hg ?_|refine NSl.slice (x.at') (x.stop) ?_|refine Aa hO Qv ?_|(with_reducible refine NInt.i64 ?_)|refine zF ?_|exact zE))
  |some g=>
   rw[lQ ms hp] at he
   rw[hp] at hO
   have hO:Ab Tryz.prog 68 [.d (Af false (elO b x))] (fun r=>r= .tup [gnQ g,erA 0 0]):=hO
   unfold elO at hO
   (repeat'((conv=>whnf);first|refine zP ?_|refine Ae ?_|refine NIdx.tab (fun _=>rfl) hg ?_|refine NSl.slice (x.at') (x.stop) ?_|refine Aa hO Qv ?_|refine A4 lP g ?_|(with_reducible refine NInt.i64 ?_)));(all_goals(conv=>whnf))
   refine⟨(i+1,ms++[g]),⟨by show i+1≤_;omega,by simp;omega,he⟩,by show l.length-(i+1)<l.length-i;omega,?_⟩
   exact leQ
 ·have gi:decide ((i:Int)<l.length)=false:=decide_eq_false (by omega)
  obtain rfl:i=l.length:=by omega
  rw[List.drop_length,gpL] at he
  have he':q=(some ms,0,0):=by rw[he];simp[Wr]
  subst he'
  (repeat'((conv=>whnf);refine zN ?_));(all_goals(conv=>whnf))
  all_goals exact zE
theorem tG {g:Gn} {n:Nat} {k:Bool} {c b:List UInt8} (h1:Eg g=some c) (h2:g.k=n) (h3:D0 n=k) (h4:c.length<128) (h5:UInt8.ofNat (idN 2 k n)::UInt8.ofNat c.length::c=b):gnE g=b:=by
 unfold gnE
 rw[h1,h2,h3,show(some c).getD []=c from rfl,Int.toNat_natCast,Df _ _ _ _ h4];exact h5
end Go.Proofs.YtaoahmplnckhpaaGreatDoor
