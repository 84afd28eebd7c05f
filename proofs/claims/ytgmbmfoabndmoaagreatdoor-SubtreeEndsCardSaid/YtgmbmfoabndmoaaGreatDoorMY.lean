/- MY: the text LawSE. No condition but what each lemma says. -/
import Derived.Test.YtgmbmfoabndmoaaGreatDoorMW
set_option maxRecDepth 100000
set_option maxHeartbeats 16000000
namespace Go.Proofs.YtgmbmfoabndmoaaGreatDoor
open Go.RowKit
theorem xC {P E:List Gn} (hs:sbM P E):∃t:Tv,t.ok∧sbE P E=t.enc:=by
 have:=(L1 P E hs.e hs.f).2
 have:=hs.e
 have:=hs.f
 exact⟨⟨0,16,true,(Ep P E).flatten⟩,⟨by show(0:Nat)≤3;omega,by show(16:Nat)≤30;omega,by show(Ep P E).flatten.length≤_;omega⟩,rfl⟩
theorem xD {P E Q F:List Gn} (mg:sbM P E) (mw:sbM Q F) {r:List UInt8} (e:sbE Q F++r=sbE P E):r=[]:=by
 obtain⟨t,t1,t2⟩:=xC mg
 obtain⟨u,u1,u2⟩:=xC mw
 rw[t2,u2] at e
 exact(Tv.inj u1 t1 (s:=[]) (by rw[List.append_nil];exact e)).2
theorem FX {P E:List Gn} (mg:sbM P E) (hl:(sbE P E).length≤400000) {k:Nat} (hk:k<(sbE P E).length):∃c o:Nat,c≠0∧sbO ((sbE P E).take k)=(none,c,o):=by
 rcases Vd ((sbE P E).take k) (by rw[List.length_take];omega) with⟨Q,F,⟨hw,he⟩,-⟩|⟨c,o,h1,-,h2⟩
 ·exfalso
  simp only at hw he
  have hle:(sbE Q F).length=k:=by rw[←he,List.length_take];omega
  have mw:=Po hw (by omega)
  have h0:=xD mg mw (r:=(sbE P E).drop k) (by rw[←he,List.take_append_drop])
  have:=congrArg List.length h0
  rw[List.length_drop,List.length_nil] at this
  omega
 ·exact⟨c,o,h1,h2⟩
theorem BU {P E:List Gn} (mg:sbM P E) {m:List UInt8} (hl:(sbE P E).length+m.length≤400000) (hm:m≠[]):∃c o:Nat,c≠0∧sbO (sbE P E++m)=(none,c,o):=by
 rcases Vd (sbE P E++m) (by rw[List.length_append];omega) with⟨Q,F,⟨hw,he⟩,-⟩|⟨c,o,h1,-,h2⟩
 ·exfalso
  simp only at hw he
  have mw:=Po hw (by rw[←he,List.length_append];omega)
  exact hm (xD mw mg he)
 ·exact⟨c,o,h1,h2⟩
theorem D7 {p:Prop} (h:p:=by first|rfl|(simp only[AV.gives,AV.ren,AV.give,D.un,D.uns,Ah,Ai,List.nil_append,List.append_nil,List.cons_append,Am,Av,Bv,A1,As,Bp,Bx,Cz,By,Ce,Br,Pn,Mt];first|done|rfl)):p:=h
theorem BW (P E:List Gn) (n:UInt16) (more:List UInt8) (hP:Xf P) (hE:Xf E) (hb:more.length≤big):Aa Tryz.prog 6 [sbA P E,.d (.v (.int .u16 n.toNat)),.d (Ac false more)] (fun r=>r=bv true):=by
 have hA:=Ow
 have hF:=Lf P E hP hE
 have hat:=n.toNat_lt
 unfold big at hb
 cases hf:(Ci P&&Ci E)
 ·rw[hf] at hF
  refine acQ 72 Tryz.func6 rfl rfl fun _ _ _=> ?_
  (repeat'((conv=>whnf);first|refine NBr.yes ?_|refine NBr.no ?_|refine NCall.eq hA rfl ?_|refine NCall.eq hF D7 ?_));(all_goals(conv=>whnf))
  all_goals exact NEnd.eq leQ
 rw[hf] at hF
 rw[Bool.and_eq_true] at hf
 by_cases h1:(more.length:Int)>2000
 ·have g1:decide ((more.length:Int)>2000)=true:=decide_eq_true h1
  refine acQ 72 Tryz.func6 rfl rfl fun _ _ _=> ?_
  (repeat'((conv=>whnf);first|refine NBr.pos asQ ?_|refine NBr.no ?_|refine NCall.eq hA rfl ?_|refine NCall.eq hF D7 ?_));(all_goals(conv=>whnf))
  all_goals exact NEnd.eq leQ
 have g1:decide ((more.length:Int)>2000)=false:=decide_eq_false h1
 obtain⟨hm,n3⟩:=wX hf.1 hf.2
 have hM:=Gk P E hm
 cases hok:sbV P E
 ·rw[hok] at hM
  have hM:Aa Tryz.prog 10 [sbA P E] (fun r=>r= .tup [Ao,iv 8]):=hM
  refine acQ 72 Tryz.func6 rfl rfl fun _ _ _=> ?_
  (repeat'((conv=>whnf);first|refine NBr.neg asQ ?_|refine NBr.yes ?_|refine NBr.no ?_|refine NCall.eq hA rfl ?_|refine NCall.eq hF D7 ?_|refine NCall.eq hM D7 ?_));(all_goals(conv=>whnf))
  all_goals exact NEnd.eq leQ
 rw[hok] at hM
 have hM:Aa Tryz.prog 10 [sbA P E] (fun r=>r= .tup [Aq 0 5 (sbE P E),iv 0]):=hM
 have hpos:0<(sbE P E).length:=by have:=Zr P E;omega
 have hi:=Nat.mod_lt n.toNat hpos
 have gl:(((sbE P E).length:Int)==0)=false:=by rw[beq_eq_false_iff_ne];omega
 have hP1:=He ((sbE P E).take (n.toNat%(sbE P E).length)) (by rw[List.length_take];omega)
 obtain⟨c1,o1,hc1,hq1⟩:=FX hm (by omega) hi
 rw[hq1] at hP1
 have hP2:=He (sbE P E++more) (by rw[List.length_append];omega)
 have hput:=Qo hok hm
 have hmore:more≠[]→∃c o:Nat,c≠0∧sbO (sbE P E++more)=(none,c,o):=BU hm (by omega)
 clear hq1
 generalize hb':sbE P E=b at hM hpos hi hP1 hP2 gl hput hmore n3
 generalize hj:n.toNat%b.length=i at hi hP1
 have hrem:((n.toNat:Int)).tmod (b.length:Int)=(i:Int):=by rw[Int.tmod_eq_emod_of_nonneg (by omega),←hj];rfl
 have hP1:Aa Tryz.prog 15 [.d (Ac false (b.take i))] (fun r=>r= .tup [.agg [Ao,Ao],erA c1 o1]):=hP1
 have gc1:((c1:Int) !=0)=true:=by rw[bne_iff_ne];omega
 by_cases hme:more=[]
 ·subst hme
  rw[List.append_nil,hput] at hP2
  have hP2:Aa Tryz.prog 15 [.d (Ac false b)] (fun r=>r= .tup [.agg [.d (Gw P),.d (Gw E)],erA 0 0]):=hP2
  refine acQ 72 Tryz.func6 rfl rfl fun _ _ _=> ?_
  (repeat'((conv=>whnf);first|refine NBr.pos asQ ?_|refine NBr.neg asQ ?_|refine NBr.yes ?_|refine NBr.no ?_|refine NCall.eq hA rfl ?_|refine NCall.eq hF D7 ?_|refine NCall.eq hM D7 ?_|refine NInt.as ((i:Int)) (hrem) ?_|refine NSl.upto ((i)) ?_|refine NCall.eq hP1 D7 ?_|refine NCall.eq hP2 D7 ?_|(with_reducible refine NInt.i64 ?_)|(with_reducible refine NApp.bytes ?_)|(with_reducible refine NApp.bytes0 ?_)|refine NFact.go (by first|decide|omega|(simp only[List.length_cons,List.length_nil];omega)) ?_));(all_goals(conv=>whnf))
  all_goals exact NEnd.eq leQ
 ·have hml:0<more.length:=List.length_pos_iff.2 hme
  obtain⟨c2,o2,hc2,hq2⟩:=hmore hme
  rw[hq2] at hP2
  have hP2:Aa Tryz.prog 15 [.d (Ac false (b++more))] (fun r=>r= .tup [.agg [Ao,Ao],erA c2 o2]):=hP2
  have gc2:((c2:Int)==0)=false:=by rw[beq_eq_false_iff_ne];omega
  have gm:((more.length:Int)==0)=false:=by rw[beq_eq_false_iff_ne];omega
  refine acQ 72 Tryz.func6 rfl rfl fun _ _ _=> ?_
  (repeat'((conv=>whnf);first|refine NBr.pos asQ ?_|refine NBr.neg asQ ?_|refine NBr.yes ?_|refine NBr.no ?_|refine NCall.eq hA rfl ?_|refine NCall.eq hF D7 ?_|refine NCall.eq hM D7 ?_|refine NInt.as ((i:Int)) (hrem) ?_|refine NSl.upto ((i)) ?_|refine NCall.eq hP1 D7 ?_|refine NCall.eq hP2 D7 ?_|(with_reducible refine NInt.i64 ?_)|(with_reducible refine NApp.bytes ?_)|(with_reducible refine NApp.bytes0 ?_)|refine NFact.go (by first|decide|omega|(simp only[List.length_cons,List.length_nil];omega)) ?_));(all_goals(conv=>whnf))
  all_goals(refine NEnd.eq ?_;(repeat'(first|refine And.intro ?_ ?_|exact rfl));(all_goals(conv=>whnf)))
  all_goals(rw[gc2,gm];rfl)
end Go.Proofs.YtgmbmfoabndmoaaGreatDoor
