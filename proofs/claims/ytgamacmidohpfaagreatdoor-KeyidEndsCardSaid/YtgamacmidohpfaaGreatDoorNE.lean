/- NE: the text LawYE. No condition but what each lemma says. -/
import Derived.Test.YtgamacmidohpfaaGreatDoorNC
set_option maxRecDepth 100000
set_option maxHeartbeats 16000000
namespace Go.Proofs.YtgamacmidohpfaaGreatDoor
open Go.RowKit
theorem vX {k:Kd} (hs:k.mid):∃t:Tv,t.ok∧kdE k=t.enc:=by
 have h2:=Yx hs
 have h3:=Cm 0 16 true (kdP k (Bc k.iss)).flatten
 have h4:(kdE k).length=(Ae 0 16 true (kdP k (Bc k.iss)).flatten).length:=rfl
 have h5:=hs.d
 have h6:=hs.s
 have h7:(Bc k.iss).length≤800000000:=hs.i.e
 exact⟨⟨0,16,true,(kdP k (Bc k.iss)).flatten⟩,⟨by show(0:Nat)≤3;omega,by show(16:Nat)≤30;omega,by show(kdP k (Bc k.iss)).flatten.length≤_;omega⟩,rfl⟩
theorem vY {k w:Kd} (mg:k.mid) (mw:w.mid) {r:List UInt8} (e:kdE w++r=kdE k):r=[]:=by
 obtain⟨t,t1,t2⟩:=vX mg
 obtain⟨u,u1,u2⟩:=vX mw
 rw[t2,u2] at e
 exact(Tv.inj u1 t1 (s:=[]) (by rw[List.append_nil];exact e)).2
theorem EZ {k:Kd} (mg:k.mid) (hl:(kdE k).length≤400000) {n:Nat} (hk:n<(kdE k).length):∃c o:Nat,c≠0∧kyO ((kdE k).take n)=(none,c,o):=by
 rcases Yw ((kdE k).take n) (by rw[List.length_take];omega) with⟨w,⟨hw,he⟩,-⟩|⟨c,o,h1,-,h2⟩
 ·exfalso
  have hle:(kdE w).length=n:=by rw[←he,List.length_take];omega
  have mw:=O3 hw (by omega)
  have h0:=vY mg mw (r:=(kdE k).drop n) (by rw[←he,List.take_append_drop])
  have:=congrArg List.length h0
  rw[List.length_drop,List.length_nil] at this
  omega
 ·exact⟨c,o,h1,h2⟩
theorem AU {k:Kd} (mg:k.mid) {m:List UInt8} (hl:(kdE k).length+m.length≤400000) (hm:m≠[]):∃c o:Nat,c≠0∧kyO (kdE k++m)=(none,c,o):=by
 rcases Yw (kdE k++m) (by rw[List.length_append];omega) with⟨w,⟨hw,he⟩,-⟩|⟨c,o,h1,-,h2⟩
 ·exfalso
  have mw:=O3 hw (by rw[←he,List.length_append];omega)
  exact hm (vY mw mg he)
 ·exact⟨c,o,h1,h2⟩
theorem D5 {p:Prop} (h:p:=by first|rfl|(simp only[AV.gives,AV.ren,AV.give,D.un,D.uns,Ag,Af,List.nil_append,List.append_nil,List.cons_append,AV.frz,AV.frzs,Ai,Al,As,Aq,An,Ar,Ax,Ck,Bq,Ce,Bg,J9,J8];first|done|rfl)):p:=h
theorem AW (k:Kd) (n:UInt16) (more:List UInt8) (h:k.okk) (hb:more.length≤big):Aa Tryz.prog 7 [kdA k,.d (.v (.int .u16 n.toNat)),.d (Ac false more)] (fun r=>r=bv true):=by
 have hA:=Oq
 have hF:=Kb k ⟨h.d,h.i,h.s⟩
 have hat:=n.toNat_lt
 unfold big at hb
 cases hf:O4 k
 ·rw[hf] at hF
  refine acQ 72 Tryz.func7 rfl rfl fun _ _ _=> ?_
  (repeat'((conv=>whnf);first|refine NBr.yes ?_|refine NBr.no ?_|refine NCall.eq hA rfl ?_|refine NCall.eq hF D5 ?_));(all_goals(conv=>whnf))
  all_goals exact NEnd.eq leQ
 rw[hf] at hF
 by_cases h1:(more.length:Int)>2000
 ·have g1:decide ((more.length:Int)>2000)=true:=decide_eq_true h1
  refine acQ 72 Tryz.func7 rfl rfl fun _ _ _=> ?_
  (repeat'((conv=>whnf);first|refine NBr.pos asQ ?_|refine NBr.no ?_|refine NCall.eq hA rfl ?_|refine NCall.eq hF D5 ?_));(all_goals(conv=>whnf))
  all_goals exact NEnd.eq leQ
 have g1:decide ((more.length:Int)>2000)=false:=decide_eq_false h1
 obtain⟨hm,-,n3,-⟩:=Rz hf
 have hM:=Jo k hm (by omega)
 cases hok:kdW k
 ·rw[hok] at hM
  have hM:Aa Tryz.prog 14 [kdA k] (fun r=>r= .tup [Av,iv 8]):=hM
  refine acQ 72 Tryz.func7 rfl rfl fun _ _ _=> ?_
  (repeat'((conv=>whnf);first|refine NBr.neg asQ ?_|refine NBr.yes ?_|refine NBr.no ?_|refine NCall.eq hA rfl ?_|refine NCall.eq hF D5 ?_|refine NCall.eq hM D5 ?_));(all_goals(conv=>whnf))
  all_goals exact NEnd.eq leQ
 rw[hok] at hM
 have hM:Aa Tryz.prog 14 [kdA k] (fun r=>r= .tup [Au 0 5 (kdE k),iv 0]):=hM
 have hpos:0<(kdE k).length:=kF k
 have hi:=Nat.mod_lt n.toNat hpos
 have gl:(((kdE k).length:Int)==0)=false:=by rw[beq_eq_false_iff_ne];omega
 have hP1:=Jn ((kdE k).take (n.toNat%(kdE k).length)) (by rw[List.length_take];omega)
 obtain⟨c1,o1,hc1,hq1⟩:=EZ hm (by omega) hi
 rw[hq1] at hP1
 have hP2:=Jn (kdE k++more) (by rw[List.length_append];omega)
 have hput:=P4 hok hm
 have hmore:more≠[]→∃c o:Nat,c≠0∧kyO (kdE k++more)=(none,c,o):=AU hm (by omega)
 clear hq1
 generalize hb':kdE k=b at hM hpos hi hP1 hP2 gl hput hmore n3
 generalize hj:n.toNat%b.length=i at hi hP1
 have hrem:((n.toNat:Int)).tmod (b.length:Int)=(i:Int):=by rw[Int.tmod_eq_emod_of_nonneg (by omega),←hj];rfl
 have hP1:Aa Tryz.prog 18 [.d (Ac false (b.take i))] (fun r=>r= .tup [.agg [bv false,Av,Av,Av],erA c1 o1]):=hP1
 have gc1:((c1:Int) !=0)=true:=by rw[bne_iff_ne];omega
 by_cases hme:more=[]
 ·subst hme
  rw[List.append_nil,hput] at hP2
  have hP2:Aa Tryz.prog 18 [.d (Ac false b)] (fun r=>r= .tup [kdQ k,erA 0 0]):=hP2
  refine acQ 72 Tryz.func7 rfl rfl fun _ _ _=> ?_
  (repeat'((conv=>whnf);first|refine NBr.pos asQ ?_|refine NBr.neg asQ ?_|refine NBr.yes ?_|refine NBr.no ?_|refine NCall.eq hA rfl ?_|refine NCall.eq hF D5 ?_|refine NCall.eq hM D5 ?_|refine NInt.as ((i:Int)) (hrem) ?_|refine NSl.upto ((i)) ?_|refine NCall.eq hP1 D5 ?_|refine NCall.eq hP2 D5 ?_|(with_reducible refine NInt.i64 ?_)|(with_reducible refine NApp.bytes ?_)|(with_reducible refine NApp.bytes0 ?_)|refine NFact.go (by first|decide|omega|(simp only[List.length_cons,List.length_nil];omega)) ?_));(all_goals(conv=>whnf))
  all_goals exact NEnd.eq leQ
 ·have hml:0<more.length:=List.length_pos_iff.2 hme
  obtain⟨c2,o2,hc2,hq2⟩:=hmore hme
  rw[hq2] at hP2
  have hP2:Aa Tryz.prog 18 [.d (Ac false (b++more))] (fun r=>r= .tup [.agg [bv false,Av,Av,Av],erA c2 o2]):=hP2
  have gc2:((c2:Int)==0)=false:=by rw[beq_eq_false_iff_ne];omega
  have gm:((more.length:Int)==0)=false:=by rw[beq_eq_false_iff_ne];omega
  refine acQ 72 Tryz.func7 rfl rfl fun _ _ _=> ?_
  (repeat'((conv=>whnf);first|refine NBr.pos asQ ?_|refine NBr.neg asQ ?_|refine NBr.yes ?_|refine NBr.no ?_|refine NCall.eq hA rfl ?_|refine NCall.eq hF D5 ?_|refine NCall.eq hM D5 ?_|refine NInt.as ((i:Int)) (hrem) ?_|refine NSl.upto ((i)) ?_|refine NCall.eq hP1 D5 ?_|refine NCall.eq hP2 D5 ?_|(with_reducible refine NInt.i64 ?_)|(with_reducible refine NApp.bytes ?_)|(with_reducible refine NApp.bytes0 ?_)|refine NFact.go (by first|decide|omega|(simp only[List.length_cons,List.length_nil];omega)) ?_));(all_goals(conv=>whnf))
  all_goals(refine NEnd.eq ?_;(repeat'(first|refine And.intro ?_ ?_|exact rfl));(all_goals(conv=>whnf)))
  all_goals(rw[gc2,gm];rfl)
end Go.Proofs.YtgamacmidohpfaaGreatDoor
