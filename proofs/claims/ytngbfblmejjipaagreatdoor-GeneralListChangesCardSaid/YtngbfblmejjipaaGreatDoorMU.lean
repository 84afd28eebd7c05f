/- MU: the texts Awk13 LawGM LawGC LawGE LawGK LawLM LawLC, one behind the other. No condition but what each lemma says. -/
import Derived.Test.YtngbfblmejjipaaGreatDoorMT
import Derived.Test.YtngbfblmejjipaaGreatDoorME
import Derived.Test.YtngbfblmejjipaaGreatDoorMR
import Derived.Test.YtngbfblmejjipaaGreatDoorMJ
import Derived.Test.YtngbfblmejjipaaGreatDoorMC
set_option maxRecDepth 100000
set_option maxHeartbeats 16000000
namespace Go.Proofs.YtngbfblmejjipaaGreatDoor
open Go.RowKit
theorem DA {g:Gn} {b:List UInt8} (hw:gnW g=true) (hl:(gnE g).length≤400000) (he:gnE g=b):Aa Tryz.prog 14 [gnA g] (fun r=>r= .tup [Ap 0 5 b,iv 0]):=by
 have h:=Fq g (Hf hw hl)
 rw[hw,he] at h
 exact h
theorem Qa {g:Gn} {n:Nat} {k:Bool} {c b:List UInt8} (h1:Cz g=some c) (h2:g.k=n) (h3:Co n=k) (h4:c.length<128) (h5:UInt8.ofNat (idN 2 k n)::UInt8.ofNat c.length::c=b):gnE g=b:=by
 unfold gnE
 rw[h1,h2,h3,show(some c).getD []=c from rfl,Int.toNat_natCast,Hz _ _ _ _ h4];exact h5
def EF:Gn:=⟨2,[],[97,46,98],[],[],0,[],0,[]⟩
def gIp:Gn:=⟨7,[],[],[127,0,0,1],[],0,[],0,[]⟩
def cB:Gn:=⟨4,[],[],[],[[⟨[50,46,53,46,52,46,51],[12,2,65,98]⟩]],0,[],0,[]⟩
theorem DB:Aa Tryz.prog 14 [gnA EF] (fun r=>r= .tup [Ap 0 5 [130,3,97,46,98],iv 0]):=by
 have he:gnE EF=[130,3,97,46,98]:=Qa (n:=2) (k:=false) (c:=[97,46,98]) (by decide+kernel) rfl rfl (by decide) (by decide)
 exact DA (by decide+kernel) (by rw[he];decide) he
theorem EG:Aa Tryz.prog 14 [gnA gIp] (fun r=>r= .tup [Ap 0 5 [135,4,127,0,0,1],iv 0]):=by
 have he:gnE gIp=[135,4,127,0,0,1]:=Qa (n:=7) (k:=false) (c:=[127,0,0,1]) (by decide+kernel) rfl rfl (by decide) (by decide)
 exact DA (by decide+kernel) (by rw[he];decide) he
theorem DC:Aa Tryz.prog 14 [gnA cB] (fun r=>r= .tup [Ap 0 5 [164,15,48,13,49,11,48,9,6,3,85,4,3,12,2,65,98],iv 0]):=by
 have e1:atE ⟨[50,46,53,46,52,46,51],[12,2,65,98]⟩=[48,9,6,3,85,4,3,12,2,65,98]:=by
  unfold atE
  rw[show Ar [50,46,53,46,52,46,51]=[85,4,3] by decide+kernel,Hz 0 6 false _ (by decide),Hz 0 16 true _ (by decide)];decide
 have e2:Br [⟨[50,46,53,46,52,46,51],[12,2,65,98]⟩]=[49,11,48,9,6,3,85,4,3,12,2,65,98]:=by
  unfold Br
  rw[List.map_cons,List.map_nil,e1,Hz 0 17 true _ (by decide)];decide
 have e3:nmE cB.nm=[48,13,49,11,48,9,6,3,85,4,3,12,2,65,98]:=by
  show nmE [[⟨[50,46,53,46,52,46,51],[12,2,65,98]⟩]]=_
  unfold nmE
  rw[List.map_cons,List.map_nil,e2,Hz 0 16 true _ (by decide)];decide
 have ha:atV ⟨[50,46,53,46,52,46,51],[12,2,65,98]⟩=true:=by decide+kernel
 have hr:Eo [⟨[50,46,53,46,52,46,51],[12,2,65,98]⟩]=true:=by
  unfold Eo
  rw[List.all_cons,ha,List.map_cons,List.map_nil,e1];decide+kernel
 have hn:nmV cB.nm=true:=by
  show nmV [[⟨[50,46,53,46,52,46,51],[12,2,65,98]⟩]]=true
  unfold nmV
  rw[List.all_cons,hr];rfl
 have hc:Cz cB=some [48,13,49,11,48,9,6,3,85,4,3,12,2,65,98]:=by
  show(if nmV cB.nm=true then some (nmE cB.nm) else none)=_
  rw[if_pos hn,e3]
 have he:gnE cB=[164,15,48,13,49,11,48,9,6,3,85,4,3,12,2,65,98]:=Qa (n:=4) (k:=true) hc rfl rfl (by decide) (by decide)
 have hw:gnW cB=true:=(Ka _).2 ⟨by decide+kernel,by decide+kernel,⟨_,hc⟩,by decide+kernel⟩
 exact DA hw (by rw[he];decide) he
theorem Io:Aa Tryz.prog 12 [] (fun r=>r=bv true):=by
 have m1:=DB
 have m2:=EG
 have m3:=DC
 have b1:=Au false false [130,3,97,46,98] [130,3,97,46,98] (by decide) (by decide)
 have b2:=Au false false [135,4,127,0,0,1] [135,4,127,0,0,1] (by decide) (by decide)
 have b3:=Au false false [164,15,48,13,49,11,48,9,6,3,85,4,3,12,2,65,98] [164,15,48,13,49,11,48,9,6,3,85,4,3,12,2,65,98] (by decide) (by decide)
 rw[beq_self_eq_true] at b1 b2 b3
 refine acQ 52 Tryz.func12 rfl rfl fun _ _ _=> ?_
 (repeat'((conv=>whnf);first|refine NBr.yes ?_|refine NCall.le m1 Kl ?_|refine NCall.le m2 Kl ?_|refine NCall.le m3 Kl ?_|refine NCall.le b1 Kl ?_|refine NCall.le b2 Kl ?_|refine NCall.le b3 Kl ?_));(all_goals(conv=>whnf))
 all_goals exact NEnd.eq leQ
theorem Bl {p:Prop} (h:p:=by first|rfl|(simp only[AV.gives,AV.ren,AV.give,D.un,D.uns,Ah,Aj,List.nil_append,List.append_nil,List.cons_append,Am,A0,Cp,Bf,Ay,Ci,Cn,Cq,Bs,Cf,Bg,Kf,Ke];first|done|rfl)):p:=h
theorem yU (g:Gn) (h:g.ok):Aa Tryz.prog 6 [gnA g] (fun r=>r=bv true):=by
 have hA:=Io
 have hF:=J5 g h
 cases hf:G8 g
 ·rw[hf] at hF
  refine acQ 75 Tryz.func6 rfl rfl fun _ _ _=> ?_
  (repeat'((conv=>whnf);first|refine NBr.yes ?_|refine NBr.no ?_|refine NCall.eq hA rfl ?_|refine NCall.eq hF Bl ?_));(all_goals(conv=>whnf))
  all_goals exact NEnd.eq leQ
 rw[hf] at hF
 obtain⟨hm,hl⟩:=Pd hf
 have hz:=hm.s.z
 have hM:=Fq g hm
 have hR:=Ue g hz
 have hV:=Um g hm
 have hW:=D0 g hz
 cases hw:gnW g
 ·rw[hw] at hM hR hV hW
  have hM:Aa Tryz.prog 14 [gnA g] (fun r=>r= .tup [As,iv 8]):=hM
  have hR:Aa Tryz.prog 20 [gnA g] (fun r=>r= .tup [As,iv 8]):=hR
  have hB:=Au false false [] [] (by simp) (by simp)
  rw[beq_self_eq_true] at hB
  refine acQ 75 Tryz.func6 rfl rfl fun _ _ _=> ?_
  (repeat'((conv=>whnf);first|refine NBr.yes ?_|refine NBr.no ?_|refine NCall.eq hA rfl ?_|refine NCall.eq hF Bl ?_|refine NCall.eq hM Bl ?_|refine NCall.eq hR Bl ?_|refine NCall.eq hV Bl ?_|refine NCall.eq hW Bl ?_|refine NCall.le hB Kl ?_|refine NFact.go ⟨by decide+kernel,by kernel_rfl⟩ ?_));(all_goals(conv=>whnf))
  all_goals exact NEnd.eq leQ
 ·rw[hw] at hM hR hV hW
  have hM:Aa Tryz.prog 14 [gnA g] (fun r=>r= .tup [Ap 0 5 (gnE g),iv 0]):=hM
  have hR:Aa Tryz.prog 20 [gnA g] (fun r=>r= .tup [Ap 0 5 (gnE g),iv 0]):=hR
  have hP:=Ep (gnE g) (by omega)
  rw[G2 hw hm] at hP
  have hP:Aa Tryz.prog 15 [.d (Ac false (gnE g))] (fun r=>r= .tup [gnQ g,erA 0 0]):=hP
  have hC:=Az g g hz.q hz.q
  rw[decide_eq_true rfl] at hC
  have hB:=Au false false (gnE g) (gnE g) (by omega) (by omega)
  rw[beq_self_eq_true] at hB
  generalize gnE g=b at hM hR hP hB
  refine acQ 75 Tryz.func6 rfl rfl fun _ _ _=> ?_
  (repeat'((conv=>whnf);first|refine NBr.yes ?_|refine NBr.no ?_|refine NCall.eq hA rfl ?_|refine NCall.eq hF Bl ?_|refine NCall.eq hM Bl ?_|refine NCall.eq hR Bl ?_|refine NCall.eq hV Bl ?_|refine NCall.eq hW Bl ?_|refine NCall.eq hP Bl ?_|refine NCall.eq hC Bl ?_|refine NCall.eq hB Bl ?_|refine NStep.go (Vu rfl rfl (ltN rfl) rfl rfl) ?_|refine NFact.go ⟨by decide+kernel,by kernel_rfl⟩ ?_));(all_goals(conv=>whnf))
  all_goals exact NEnd.eq leQ
theorem gC (b:List UInt8) (hb:b.length≤big):Aa Tryz.prog 7 [.d (Ac false b)] (fun r=>r=bv true):=by
 have hA:=Io
 unfold big at hb
 by_cases h1:(b.length:Int)>3000
 ·have g1:decide ((b.length:Int)>3000)=true:=decide_eq_true h1
  refine acQ 81 Tryz.func7 rfl rfl fun _ _ _=> ?_
  (repeat'((conv=>whnf);first|refine NBr.pos asQ ?_|refine NBr.no ?_|refine NCall.eq hA rfl ?_));(all_goals(conv=>whnf))
  all_goals exact NEnd.eq leQ
 have g1:decide ((b.length:Int)>3000)=false:=decide_eq_false h1
 have hl:b.length≤3000:=by omega
 have hP:=Ep b (by omega)
 have hR:=bW b hl
 rcases Ls b (by omega) with⟨g,hw,he,ho⟩|ho
 ·obtain⟨e1,e2⟩:=cA hw he hl
  have hm:=Hf hw (by rw[←he];omega)
  rw[e1,if_pos e2] at hR
  rw[ho] at hP
  have hP:Aa Tryz.prog 15 [.d (Ac false b)] (fun r=>r= .tup [gnQ g,erA 0 0]):=hP
  have hM:=Fq g hm
  rw[hw,←he] at hM
  have hM:Aa Tryz.prog 14 [gnA g] (fun r=>r= .tup [Ap 0 5 b,iv 0]):=hM
  have hV:=Um g hm
  rw[hw] at hV
  have hC:=Az g g hm.s.z.q hm.s.z.q
  rw[decide_eq_true rfl] at hC
  have hW:=P2 0 0 b.length (fun _=>rfl) (fun h=>absurd rfl h)
  have hB:=Au false false b b (by omega) (by omega)
  rw[beq_self_eq_true] at hB
  refine acQ 81 Tryz.func7 rfl rfl fun _ _ _=> ?_
  (repeat'((conv=>whnf);first|refine NBr.neg asQ ?_|refine NBr.yes ?_|refine NBr.no ?_|refine NCall.eq hA rfl ?_|refine NCall.eq hP Bl ?_|refine NCall.eq hR Bl ?_|refine NCall.eq hC Bl ?_|refine NCall.eq hW rfl ?_|refine NCall.eq hM Bl ?_|refine NCall.eq hV Bl ?_|refine NCall.eq hB Bl ?_));(all_goals(conv=>whnf))
  all_goals exact NEnd.eq leQ
 ·rw[jU ho hl,if_neg (by simp)] at hR
  rw[ho] at hP
  obtain⟨hc0,hof⟩:=Il b
  generalize Mp b=e at hP hc0 hof
  obtain⟨c,o⟩:=e
  simp only at hc0 hof
  have hP:Aa Tryz.prog 15 [.d (Ac false b)] (fun r=>r= .tup [gnQ gz,erA c o]):=hP
  have hC:=Az gz gz Fg Fg
  rw[decide_eq_true rfl] at hC
  have hW:=P2 c o b.length (fun h=>absurd h hc0) (fun _=>hof)
  have gc:((c:Int)==0)=false:=by rw[beq_eq_false_iff_ne];omega
  refine acQ 81 Tryz.func7 rfl rfl fun _ _ _=> ?_
  (repeat'((conv=>whnf);first|refine NBr.neg asQ ?_|refine NBr.yes ?_|refine NBr.no ?_|refine NCall.eq hA rfl ?_|refine NCall.eq hP Bl ?_|refine NCall.eq hR Bl ?_|refine NCall.le hC Kl ?_|refine NCall.eq hW rfl ?_|(refine NBr.mk (fun hc=> ?_) (fun hc=> ?_)<;>(have hcP:=hc;(try simp only[beq_iff_eq,beq_eq_false_iff_ne,ne_eq,Bool.not_eq_true',Bool.not_eq_false'] at hcP)<;>first|(exfalso;omega)|skip))));(all_goals(conv=>whnf))
  all_goals exact NEnd.eq leQ
theorem Wo {α:Type} {l:List α} {i:Nat} {x y:α} (h:l[i]?=some y):l.set i x=l↔x=y:=by
 obtain⟨hlt,he⟩:=List.getElem?_eq_some_iff.1 h
 constructor
 ·intro e
  have:=congrArg (fun m=>m[i]?) e
  simp only[List.getElem?_set_self hlt,h,Option.some.injEq] at this
  exact this
 ·rintro rfl
  rw[←he,List.set_getElem_self]
theorem D1 {p:Prop} (h:p:=by first|rfl|(simp only[AV.gives,AV.ren,AV.give,D.un,D.uns,Ah,Aj,List.nil_append,List.append_nil,List.cons_append,AV.frz,AV.frzs,Am,A0,Cp,Bf,Ay,Ci,Cn,Cq,Bs,Cf,Bg,Kf,Ke];first|done|rfl)):p:=h
theorem yV (g:Gn) (at':UInt16) (x:UInt8) (h:g.ok):Aa Tryz.prog 3 [gnA g,.d (.v (.int .u16 at'.toNat)),cv x.toNat] (fun r=>r=bv true):=by
 have hA:=Io
 have hF:=J5 g h
 have hat:=at'.toNat_lt
 cases hf:G8 g
 ·rw[hf] at hF
  refine acQ 93 Tryz.func3 rfl rfl fun _ _ _=> ?_
  (repeat'((conv=>whnf);first|refine NBr.yes ?_|refine NBr.no ?_|refine NCall.eq hA rfl ?_|refine NCall.eq hF D1 ?_));(all_goals(conv=>whnf))
  all_goals exact NEnd.eq leQ
 rw[hf] at hF
 obtain⟨hm,n3⟩:=Pd hf
 have hM:=Fq g hm
 cases hok:gnW g
 ·rw[hok] at hM
  have hM:Aa Tryz.prog 14 [gnA g] (fun r=>r= .tup [As,iv 8]):=hM
  refine acQ 93 Tryz.func3 rfl rfl fun _ _ _=> ?_
  (repeat'((conv=>whnf);first|refine NBr.yes ?_|refine NBr.no ?_|refine NCall.eq hA rfl ?_|refine NCall.eq hF D1 ?_|refine NCall.eq hM D1 ?_));(all_goals(conv=>whnf))
  all_goals exact NEnd.eq leQ
 rw[hok] at hM
 have hM:Aa Tryz.prog 14 [gnA g] (fun r=>r= .tup [Ap 0 5 (gnE g),iv 0]):=hM
 have hpl:=G2 hok hm
 have hpos:0<(gnE g).length:=by have:=Yr g;omega
 obtain⟨y,hy⟩:∃y,(gnE g)[at'.toNat%(gnE g).length]?=some y:=⟨_,List.getElem?_eq_getElem (Nat.mod_lt _ hpos)⟩
 have hi:=Nat.mod_lt at'.toNat hpos
 have hP:=Ep ((gnE g).set (at'.toNat%(gnE g).length) x) (by rw[List.length_set];omega)
 have htwo:=Ls ((gnE g).set (at'.toNat%(gnE g).length) x) (by rw[List.length_set];omega)
 have her:=Il ((gnE g).set (at'.toNat%(gnE g).length) x)
 have hxy:=Wo (x:=x) hy
 have gl:(((gnE g).length:Int)==0)=false:=by rw[beq_eq_false_iff_ne];omega
 have hbl:((gnE g).set (at'.toNat%(gnE g).length) x).length=(gnE g).length:=List.length_set
 have hxi:((x.toNat:Int)==(y.toNat:Int))=decide (x=y):=by
  rw[Bool.eq_iff_iff,beq_iff_eq,decide_eq_true_eq,←UInt8.toNat_inj];omega
 generalize hb:gnE g=b at hM hpl hpos hy hi hP htwo her hxy gl hbl n3
 generalize hj:at'.toNat%b.length=i at hy hi hP htwo her hxy hbl
 have hrem:((at'.toNat:Int)).tmod (b.length:Int)=(i:Int):=by rw[Int.tmod_eq_emod_of_nonneg (by omega),←hj];rfl
 rcases htwo with⟨w,hw,he,hp⟩|hp
 ·have k2:=Hf hw (by rw[←he,List.length_set];omega)
  have hM2:=Fq w k2
  rw[hw,←he] at hM2
  have hM2:Aa Tryz.prog 14 [gnA w] (fun r=>r= .tup [Ap 0 5 (b.set i x),iv 0]):=hM2
  have hC:=Az w g k2.s.z.q hm.s.z.q
  have hB:=Au false false (b.set i x) (b.set i x) (by omega) (by omega)
  rw[beq_self_eq_true] at hB
  have hwl:decide (w=g)=decide (x=y):=by
   rw[Bool.eq_iff_iff,decide_eq_true_eq,decide_eq_true_eq,←hxy]
   constructor
   ·rintro rfl;rw[he];exact hb
   ·intro e;exact yR hw hok k2 hm (by rw[←he,hb];exact e)
  rw[hwl] at hC
  rw[hp] at hP
  have hP:Aa Tryz.prog 15 [.d (Ac false (b.set i x))] (fun r=>r= .tup [gnQ w,erA 0 0]):=hP
  refine acX 93 [14] Tryz.func3 rfl rfl fun _ _ _=> ?_
  (repeat'((conv=>whnf);first|refine NBr.neg asQ ?_|refine NBr.yes ?_|refine NBr.no ?_|refine NCall.eq hA rfl ?_|refine NCall.eq hF D1 ?_|refine NStep.callX (hM) (hpos) rfl rfl rfl (ltN rfl) 2000 rfl rfl rfl D1 ?_|refine NStep.go (De rfl rfl (ltN rfl) Tryz.underlying22 rfl) ?_|refine NInt.as ((i:Int)) (hrem) ?_|refine NStep.go (Fc i rfl rfl (ltN rfl) Tryz.underlying22 tyB rfl rfl rfl hi) ?_|refine NStep.go (Fd rfl rfl (ltN rfl) rfl rfl hy) ?_|refine NStep.go (Eh rfl rfl rfl rfl rfl hi) ?_|refine NStep.frz2 7 51 2000 _ (hbl.symm) rfl rfl rfl ?_|refine NStep.call (hP) rfl rfl (ltN rfl) 4000 rfl rfl rfl D1 ?_|refine NStep.call (hM2) rfl rfl (ltN rfl) 3000 rfl rfl rfl D1 ?_|refine NCall.eq hC D1 ?_|refine NCall.eq hB D1 ?_|(with_reducible refine NInt.i64 ?_)|refine NFact.go (by first|decide|omega|(simp only[List.length_cons,List.length_nil];omega)) ?_));(all_goals(conv=>whnf))
  all_goals(refine NEnd.eq ?_;(repeat'(first|refine And.intro ?_ ?_|exact rfl));(all_goals(conv=>whnf)))
  all_goals(rw[hxi];exact beq_self_eq_true _)
 ·have hne:¬x=y:=fun e=>by
   have h1:=hxy.2 e
   rw[h1,hpl] at hp
   cases hp
  obtain⟨hc0,ho⟩:=her
  rw[hp] at hP
  generalize Mp (b.set i x)=e at hP hc0 ho
  obtain⟨c,o⟩:=e
  simp only at hc0 ho
  have hP:Aa Tryz.prog 15 [.d (Ac false (b.set i x))] (fun r=>r= .tup [gnQ gz,erA c o]):=hP
  have hC:=Az gz gz Fg Fg
  rw[decide_eq_true rfl] at hC
  have hW:=P2 c o (b.set i x).length (fun h=>absurd h hc0) (fun _=>ho)
  have gc:((c:Int) !=0)=true:=by rw[bne_iff_ne];omega
  have gx:((x.toNat:Int) !=(y.toNat:Int))=true:=by rw[bne,hxi,decide_eq_false hne];rfl
  refine acX 93 [14] Tryz.func3 rfl rfl fun _ _ _=> ?_
  (repeat'((conv=>whnf);first|refine NBr.pos asQ ?_|refine NBr.neg asQ ?_|refine NBr.yes ?_|refine NBr.no ?_|refine NCall.eq hA rfl ?_|refine NCall.eq hF D1 ?_|refine NStep.callX (hM) (hpos) rfl rfl rfl (ltN rfl) 2000 rfl rfl rfl D1 ?_|refine NStep.go (De rfl rfl (ltN rfl) Tryz.underlying22 rfl) ?_|refine NInt.as ((i:Int)) (hrem) ?_|refine NStep.go (Fc i rfl rfl (ltN rfl) Tryz.underlying22 tyB rfl rfl rfl hi) ?_|refine NStep.go (Fd rfl rfl (ltN rfl) rfl rfl hy) ?_|refine NStep.go (Eh rfl rfl rfl rfl rfl hi) ?_|refine NStep.frz2 7 51 2000 _ (hbl.symm) rfl rfl rfl ?_|refine NStep.call (hP) rfl rfl (ltN rfl) 4000 rfl rfl rfl D1 ?_|refine NStep.go (Fv (sz:=1) rfl rfl (ltN rfl) Tryz.underlying22 rfl rfl) ?_|refine NCall.le hC Kl ?_|refine NCall.eq hW rfl ?_|(with_reducible refine NInt.i64 ?_)|refine NFact.go (by first|decide|omega|(simp only[List.length_cons,List.length_nil];omega)) ?_));(all_goals(conv=>whnf))
  all_goals exact NEnd.eq leQ
theorem uS {g w:Gn} (hg:gnW g=true) (mg:g.mid) (hw:gnW w=true) (mw:w.mid) {r:List UInt8} (e:gnE w++r=gnE g):r=[]:=by
 obtain⟨t,t1,t2⟩:=fZ hg mg
 obtain⟨u,u1,u2⟩:=fZ hw mw
 rw[t2,u2] at e
 exact(Tv.inj u1 t1 (s:=[]) (by rw[List.append_nil];exact e)).2
theorem uT {g:Gn} (hg:gnW g=true) (mg:g.mid) (hl:(gnE g).length≤400000) {k:Nat} (hk:k<(gnE g).length):G6 ((gnE g).take k)=none:=by
 rcases Ls ((gnE g).take k) (by rw[List.length_take];omega) with⟨w,hw,he,-⟩|h
 ·exfalso
  have hle:(gnE w).length=k:=by rw[←he,List.length_take];omega
  have mw:=Hf hw (by omega)
  have h0:=uS hg mg hw mw (r:=(gnE g).drop k) (by rw[←he,List.take_append_drop])
  have:=congrArg List.length h0
  rw[List.length_drop,List.length_nil] at this
  omega
 ·exact h
theorem nW {g:Gn} (hg:gnW g=true) (mg:g.mid) {m:List UInt8} (hl:(gnE g).length+m.length≤400000) (hm:m≠[]):G6 (gnE g++m)=none:=by
 rcases Ls (gnE g++m) (by rw[List.length_append];omega) with⟨w,hw,he,-⟩|h
 ·exfalso
  have mw:=Hf hw (by rw[←he,List.length_append];omega)
  exact hm (uS hw mw hg mg he)
 ·exact h
theorem D2 {p:Prop} (h:p:=by first|rfl|(simp only[AV.gives,AV.ren,AV.give,D.un,D.uns,Ah,Aj,List.nil_append,List.append_nil,List.cons_append,Am,A0,Cp,Bf,Ay,Ci,Cn,Cq,Bs,Cf,Bg,Kf,Ke];first|done|rfl)):p:=h
theorem yW (g:Gn) (n:UInt16) (more:List UInt8) (h:g.ok) (hb:more.length≤big):Aa Tryz.prog 4 [gnA g,.d (.v (.int .u16 n.toNat)),.d (Ac false more)] (fun r=>r=bv true):=by
 have hA:=Io
 have hF:=J5 g h
 have hat:=n.toNat_lt
 unfold big at hb
 cases hf:G8 g
 ·rw[hf] at hF
  refine acQ 72 Tryz.func4 rfl rfl fun _ _ _=> ?_
  (repeat'((conv=>whnf);first|refine NBr.yes ?_|refine NBr.no ?_|refine NCall.eq hA rfl ?_|refine NCall.eq hF D2 ?_));(all_goals(conv=>whnf))
  all_goals exact NEnd.eq leQ
 rw[hf] at hF
 by_cases h1:(more.length:Int)>2000
 ·have g1:decide ((more.length:Int)>2000)=true:=decide_eq_true h1
  refine acQ 72 Tryz.func4 rfl rfl fun _ _ _=> ?_
  (repeat'((conv=>whnf);first|refine NBr.pos asQ ?_|refine NBr.no ?_|refine NCall.eq hA rfl ?_|refine NCall.eq hF D2 ?_));(all_goals(conv=>whnf))
  all_goals exact NEnd.eq leQ
 have g1:decide ((more.length:Int)>2000)=false:=decide_eq_false h1
 obtain⟨hm,n3⟩:=Pd hf
 have hM:=Fq g hm
 cases hok:gnW g
 ·rw[hok] at hM
  have hM:Aa Tryz.prog 14 [gnA g] (fun r=>r= .tup [As,iv 8]):=hM
  refine acQ 72 Tryz.func4 rfl rfl fun _ _ _=> ?_
  (repeat'((conv=>whnf);first|refine NBr.neg asQ ?_|refine NBr.yes ?_|refine NBr.no ?_|refine NCall.eq hA rfl ?_|refine NCall.eq hF D2 ?_|refine NCall.eq hM D2 ?_));(all_goals(conv=>whnf))
  all_goals exact NEnd.eq leQ
 rw[hok] at hM
 have hM:Aa Tryz.prog 14 [gnA g] (fun r=>r= .tup [Ap 0 5 (gnE g),iv 0]):=hM
 have hpos:0<(gnE g).length:=by have:=Yr g;omega
 have hi:=Nat.mod_lt n.toNat hpos
 have gl:(((gnE g).length:Int)==0)=false:=by rw[beq_eq_false_iff_ne];omega
 have hP1:=Ep ((gnE g).take (n.toNat%(gnE g).length)) (by rw[List.length_take];omega)
 rw[uT hok hm (by omega) hi] at hP1
 obtain⟨hc1,-⟩:=Il ((gnE g).take (n.toNat%(gnE g).length))
 generalize Mp ((gnE g).take (n.toNat%(gnE g).length))=e1 at hP1 hc1
 obtain⟨c1,o1⟩:=e1
 simp only at hc1
 have hP2:=Ep (gnE g++more) (by rw[List.length_append];omega)
 have hput:=G2 hok hm
 have hmore:more≠[]→G6 (gnE g++more)=none:=nW hok hm (by omega)
 generalize hb':gnE g=b at hM hpos hi hP1 hP2 gl hput hmore n3
 generalize hj:n.toNat%b.length=i at hi hP1
 have hrem:((n.toNat:Int)).tmod (b.length:Int)=(i:Int):=by rw[Int.tmod_eq_emod_of_nonneg (by omega),←hj];rfl
 have hP1:Aa Tryz.prog 15 [.d (Ac false (b.take i))] (fun r=>r= .tup [gnQ gz,erA c1 o1]):=hP1
 have gc1:((c1:Int) !=0)=true:=by rw[bne_iff_ne];omega
 by_cases hme:more=[]
 ·subst hme
  rw[List.append_nil,hput] at hP2
  have hP2:Aa Tryz.prog 15 [.d (Ac false b)] (fun r=>r= .tup [gnQ g,erA 0 0]):=hP2
  refine acQ 72 Tryz.func4 rfl rfl fun _ _ _=> ?_
  (repeat'((conv=>whnf);first|refine NBr.pos asQ ?_|refine NBr.neg asQ ?_|refine NBr.yes ?_|refine NBr.no ?_|refine NCall.eq hA rfl ?_|refine NCall.eq hF D2 ?_|refine NCall.eq hM D2 ?_|refine NInt.as ((i:Int)) (hrem) ?_|refine NSl.upto ((i)) ?_|refine NCall.eq hP1 D2 ?_|refine NCall.eq hP2 D2 ?_|(with_reducible refine NInt.i64 ?_)|(with_reducible refine NApp.bytes ?_)|(with_reducible refine NApp.bytes0 ?_)|refine NFact.go (by first|decide|omega|(simp only[List.length_cons,List.length_nil];omega)) ?_));(all_goals(conv=>whnf))
  all_goals exact NEnd.eq leQ
 ·have hml:0<more.length:=List.length_pos_iff.2 hme
  rw[hmore hme] at hP2
  obtain⟨hc2,-⟩:=Il (b++more)
  generalize Mp (b++more)=e2 at hP2 hc2
  obtain⟨c2,o2⟩:=e2
  simp only at hc2
  have hP2:Aa Tryz.prog 15 [.d (Ac false (b++more))] (fun r=>r= .tup [gnQ gz,erA c2 o2]):=hP2
  have gc2:((c2:Int)==0)=false:=by rw[beq_eq_false_iff_ne];omega
  have gm:((more.length:Int)==0)=false:=by rw[beq_eq_false_iff_ne];omega
  refine acQ 72 Tryz.func4 rfl rfl fun _ _ _=> ?_
  (repeat'((conv=>whnf);first|refine NBr.pos asQ ?_|refine NBr.neg asQ ?_|refine NBr.yes ?_|refine NBr.no ?_|refine NCall.eq hA rfl ?_|refine NCall.eq hF D2 ?_|refine NCall.eq hM D2 ?_|refine NInt.as ((i:Int)) (hrem) ?_|refine NSl.upto ((i)) ?_|refine NCall.eq hP1 D2 ?_|refine NCall.eq hP2 D2 ?_|(with_reducible refine NInt.i64 ?_)|(with_reducible refine NApp.bytes ?_)|(with_reducible refine NApp.bytes0 ?_)|refine NFact.go (by first|decide|omega|(simp only[List.length_cons,List.length_nil];omega)) ?_));(all_goals(conv=>whnf))
  all_goals(refine NEnd.eq ?_;(repeat'(first|refine And.intro ?_ ?_|exact rfl));(all_goals(conv=>whnf)))
  all_goals(rw[gc2,gm];rfl)
theorem uU:gnW gz=false∧gz.mid:=⟨by decide+kernel,⟨⟨by decide,by decide,by decide,Dc,by decide,by decide⟩,by decide+kernel⟩⟩
theorem Lv {p:Prop} (h:p:=by first|rfl|(simp only[AV.gives,AV.ren,AV.give,D.un,D.uns,Ah,Aj,List.nil_append,List.append_nil,List.cons_append,Am,A0,Cp,Bf,Ay,Ci,Cn,Cq,Bs,Cf,Bg,Kf,Ke];first|done|rfl)):p:=h
theorem yX (b:List UInt8) (hb:b.length≤big):Aa Tryz.prog 5 [.d (Ac false b)] (fun r=>r=bv true):=by
 have hA:=Io
 unfold big at hb
 by_cases h1:(b.length:Int)>3000
 ·have g1:=BF h1
  clear h1
  refine acQ 88 Tryz.func5 rfl rfl fun _ _ _=> ?_
  (repeat'((conv=>whnf);first|refine NBr.pos asQ ?_|refine NBr.no ?_|refine NCall.eq hA rfl ?_));(all_goals(conv=>whnf))
  all_goals exact NEnd.eq leQ
 have g1:=DX h1
 have hP:=Ep b (by omega)
 have hR:=bW b (by omega)
 have hBB:=Au false false b b (by omega) (by omega)
 rw[beq_self_eq_true] at hBB
 have hb9:b.length≤1000000000:=by omega
 rcases Ls b (by omega) with⟨g,hw,he,hg⟩|hg
 ·have hpos:0<b.length:=by have:=Yr g;rw[he];omega
  obtain⟨y1,y2⟩:=cA hw he (by omega)
  rw[hg] at hP
  have hP:Aa Tryz.prog 15 [.d (Ac false b)] (fun r=>r= .tup [gnQ g,erA 0 0]):=hP
  rw[y1,if_pos y2] at hR
  have hm:=Hf hw (by rw[←he];omega)
  have hM:=Fq g hm
  rw[hw,←he] at hM
  have hM:Aa Tryz.prog 14 [gnA g] (fun r=>r= .tup [Ap 0 5 b,iv 0]):=hM
  have hC:=Az g g hm.s.z.q hm.s.z.q
  rw[decide_eq_true rfl] at hC
  have hfr:=Wn g 0 0
  clear y1 y2 hm he
  refine acX 88 [14] Tryz.func5 rfl rfl fun _ _ _=> ?_
  (repeat'((conv=>whnf);first|refine NBr.neg asQ ?_|refine NBr.no ?_|refine NCall.eq hA rfl ?_|refine NStep.go (Fv (sz:=1) rfl rfl (ltN rfl) Tryz.underlying22 rfl rfl) ?_|refine Lu clQ ?_|refine NStep.go (Nb rfl rfl (ltN rfl) (Mw.ty rfl) tyB) ?_|refine NStep.go (Vl (κ:=2000) rfl rfl (ltN rfl) clQ rfl rfl (K6 b) hpos Tryz.underlying22 tyB rfl hb9 (by omega)) ?_|refine NStep.go (So (κ:=2500) (k:=2000) rfl rfl (ltN rfl) clQ rfl (Hx b) (Hw b) rfl hP hfr) ?_|refine NStep.go (Sp (κ:=2600) (k:=2000) rfl rfl (ltN rfl) clQ rfl (Hx b) (Hw b) rfl rfl hBB rfl) ?_));(all_goals(conv=>whnf))
  refine NLoop.go (fun i:Nat=>i≤b.length) (fun i=>b.length-i) (fun i=>⟨[(0,.d (Ac false b)),(3,.pk 2000 0 b.length 1),(4,.ptr 4 0),(5,.ptr 5 0),(6,iv i)],[(2000,(Ai (P9 i b)).map AV.d),(4,[iv g.k,.d (sD g.oid),.d (sD g.tx),.d (Ac true g.by'),.d (H2 g.nm),iv g.ak,.d (sD g.av),iv g.pk,.d (sD g.pv)]),(5,[iv 0,iv 0])],[]⟩) 0 (by omega) (by((repeat'(first|exact trivial|exact Bb _|refine And.intro ?_ ?_));(all_goals(conv=>whnf)));all_goals exact Et _) ?_
  intro i hi
  by_cases hik:i<b.length
  ·have gi:decide ((i:Int)<b.length)=true:=decide_eq_true (by omega)
   obtain⟨x,hx⟩:∃x,b[i]?=some x:=⟨_,List.getElem?_eq_getElem hik⟩
   have hx':=gB hx
   have hil:i<(P9 i b).length:=by rw[Yu];exact hik
   have hs:=Yv hx
   (repeat'((conv=>whnf);first|refine NBr.pos asQ ?_|refine NStep.go (De rfl rfl (ltN rfl) Tryz.underlying22 rfl) ?_|refine NStep.go (Fc i rfl rfl (ltN rfl) Tryz.underlying22 tyB rfl rfl rfl hik) ?_|refine NStep.go (Fd rfl rfl (ltN rfl) rfl rfl hx') ?_|(with_reducible refine NInt.octZ (x.toNat+1) ?_)|refine NStep.go (Eh rfl rfl rfl rfl rfl hil) ?_|(with_reducible refine NInt.i64 ?_)));(all_goals(conv=>whnf))
   refine⟨i+1,by omega,by omega,?_⟩
   rw[←hs]
   ((repeat'(first|exact trivial|exact Bb _|refine And.intro ?_ ?_));(all_goals(conv=>whnf)))
   all_goals exact Et _
  ·have gi:decide ((i:Int)<b.length)=false:=decide_eq_false (by omega)
   (repeat'((conv=>whnf);first|refine NBr.neg asQ ?_|refine NBr.no ?_|refine Lu clQ ?_|refine NStep.go (De rfl rfl (ltN rfl) Tryz.underlying22 rfl) ?_|refine NStep.callX (hM) (hpos) rfl rfl rfl (ltN rfl) 3000 clQ rfl rfl Lv ?_|refine NCall.eq hR Lv ?_|refine NCall.eq hC Lv ?_));(all_goals(conv=>whnf))
   refine NLoop.go (fun i:Nat=>i≤b.length) (fun i=>b.length-i) (fun i=>⟨[(4,.ptr 4 0),(7,.pk 3000 0 b.length 1),(8,iv 0),(9,.ptr 9 0),(10,bv true),(11,iv i)],[(3000,(Ai (P9 i b)).map AV.d),(4,[iv g.k,.d (sD g.oid),.d (sD g.tx),.d (Ac true g.by'),.d (H2 g.nm),iv g.ak,.d (sD g.av),iv g.pk,.d (sD g.pv)]),(9,[iv g.k,.d (sD g.oid),.d (sD g.tx),.d (Ac false g.by'),.d (H2 g.nm),iv g.ak,.d (sD g.av),iv g.pk,.d (sD g.pv)])],[]⟩) 0 (by omega) (by((repeat'(first|exact trivial|exact Bb _|refine And.intro ?_ ?_));(all_goals(conv=>whnf)));all_goals exact Et _) ?_
   intro j hj
   by_cases hjk:j<b.length
   ·have gj:decide ((j:Int)<b.length)=true:=decide_eq_true (by omega)
    obtain⟨x,hx⟩:∃x,b[j]?=some x:=⟨_,List.getElem?_eq_getElem hjk⟩
    have hx':=gB hx
    have hil:j<(P9 j b).length:=by rw[Yu];exact hjk
    have hs:=Yv hx
    (repeat'((conv=>whnf);first|refine NBr.pos asQ ?_|refine NStep.go (De rfl rfl (ltN rfl) Tryz.underlying22 rfl) ?_|refine NStep.go (Fc j rfl rfl (ltN rfl) Tryz.underlying22 tyB rfl rfl rfl hjk) ?_|refine NStep.go (Fd rfl rfl (ltN rfl) rfl rfl hx') ?_|(with_reducible refine NInt.octZ (x.toNat+1) ?_)|refine NStep.go (Eh rfl rfl rfl rfl rfl hil) ?_|(with_reducible refine NInt.i64 ?_)));(all_goals(conv=>whnf))
    refine⟨j+1,by omega,by omega,?_⟩
    rw[←hs]
    ((repeat'(first|exact trivial|exact Bb _|refine And.intro ?_ ?_));(all_goals(conv=>whnf)))
    all_goals exact Et _
   ·have gj:decide ((j:Int)<b.length)=false:=decide_eq_false (by omega)
    (repeat'((conv=>whnf);first|refine NBr.neg asQ ?_|refine NBr.yes ?_|refine NBr.no ?_|refine Lu clQ ?_|refine NStep.go (De rfl rfl (ltN rfl) Tryz.underlying22 rfl) ?_|refine NCall.eq hC Lv ?_));(all_goals(conv=>whnf))
    all_goals exact NEnd.eq leQ
 ·rw[jU hg (by omega),if_neg (by simp)] at hR
  rw[hg] at hP
  obtain⟨hc0,hof⟩:=Il b
  generalize Mp b=e at hP hc0 hof
  obtain⟨c,o⟩:=e
  simp only at hc0 hof
  have hP:Aa Tryz.prog 15 [.d (Ac false b)] (fun r=>r= .tup [gnQ gz,erA c o]):=hP
  have hC:=Az gz gz Fg Fg
  rw[decide_eq_true rfl] at hC
  have gc:((c:Int)==0)=false:=by rw[beq_eq_false_iff_ne];omega
  have hM:=Fq gz uU.2
  rw[uU.1] at hM
  have hM:Aa Tryz.prog 14 [gnA gz] (fun r=>r= .tup [As,iv 8]):=hM
  have hfr:=Wn gz c o
  by_cases hb0:b=[]
  ·subst hb0
   refine acX 88 [14] Tryz.func5 rfl rfl fun _ _ _=> ?_
   (repeat'((conv=>whnf);first|refine NBr.neg asQ ?_|refine NBr.no ?_|refine NCall.eq hA rfl ?_|refine NStep.go (Fv (sz:=1) rfl rfl (ltN rfl) Tryz.underlying22 rfl rfl) ?_|refine NStep.go (Nb rfl rfl (ltN rfl) (Mw.ty rfl) tyB) ?_|refine NStep.go (eI rfl rfl (ltN rfl) rfl rfl Tryz.underlying22 tyB) ?_|refine NCall.eq hP rfl ?_|refine NCall.eq hBB rfl ?_));(all_goals(conv=>whnf))
   refine NLoop.go (fun i:Nat=>i=0) (fun i=>i) (fun i=>⟨[(0,.d (Ac false [])),(3,.d (.sl false 0 1 [])),(4,.ptr 4 0),(5,.ptr 5 0),(6,iv 0)],[(4,[iv 0,.d (sD []),.d (sD []),.d (Ac true []),.d (H2 []),iv 0,.d (sD []),iv 0,.d (sD [])]),(5,[iv c,iv o])],[]⟩) 0 rfl leQ ?_
   rintro i rfl
   (repeat'((conv=>whnf);first|refine NBr.no ?_|refine NStep.go (Fv (sz:=1) rfl rfl (ltN rfl) Tryz.underlying22 rfl rfl) ?_|refine NStep.call (hM) rfl rfl (ltN rfl) 3000 clQ rfl rfl rfl ?_|refine NCall.eq hR rfl ?_|refine NCall.le hC Kl ?_|(refine NBr.mk (fun hc=> ?_) (fun hc=> ?_)<;>(have hcP:=hc;(try simp only[beq_iff_eq,beq_eq_false_iff_ne,ne_eq,Bool.not_eq_true',Bool.not_eq_false'] at hcP)<;>first|(exfalso;omega)|skip))));(all_goals(conv=>whnf))
   refine NLoop.go (fun i:Nat=>i=0) (fun i=>i) (fun i=>⟨[(7,As),(8,iv 8),(10,bv false),(11,iv 0)],[],[]⟩) 0 rfl leQ ?_
   rintro i rfl
   (repeat'((conv=>whnf);first|refine NBr.yes ?_|refine NBr.no ?_|refine NStep.go (Fv (sz:=1) rfl rfl (ltN rfl) Tryz.underlying22 rfl rfl) ?_));(all_goals(conv=>whnf))
   all_goals exact NEnd.eq leQ
  have hpos:0<b.length:=List.length_pos_iff.2 hb0
  refine acX 88 [14] Tryz.func5 rfl rfl fun _ _ _=> ?_
  (repeat'((conv=>whnf);first|refine NBr.neg asQ ?_|refine NBr.no ?_|refine NCall.eq hA rfl ?_|refine NStep.go (Fv (sz:=1) rfl rfl (ltN rfl) Tryz.underlying22 rfl rfl) ?_|refine Lu clQ ?_|refine NStep.go (Nb rfl rfl (ltN rfl) (Mw.ty rfl) tyB) ?_|refine NStep.go (Vl (κ:=2000) rfl rfl (ltN rfl) clQ rfl rfl (K6 b) hpos Tryz.underlying22 tyB rfl hb9 (by omega)) ?_|refine NStep.go (So (κ:=2500) (k:=2000) rfl rfl (ltN rfl) clQ rfl (Hx b) (Hw b) rfl hP hfr) ?_|refine NStep.go (Sp (κ:=2600) (k:=2000) rfl rfl (ltN rfl) clQ rfl (Hx b) (Hw b) rfl rfl hBB rfl) ?_));(all_goals(conv=>whnf))
  refine NLoop.go (fun i:Nat=>i≤b.length) (fun i=>b.length-i) (fun i=>⟨[(0,.d (Ac false b)),(3,.pk 2000 0 b.length 1),(4,.ptr 4 0),(5,.ptr 5 0),(6,iv i)],[(2000,(Ai (P9 i b)).map AV.d),(4,[iv 0,.d (sD []),.d (sD []),.d (Ac true []),.d (H2 []),iv 0,.d (sD []),iv 0,.d (sD [])]),(5,[iv c,iv o])],[]⟩) 0 (by omega) (by((repeat'(first|exact trivial|exact Bb _|refine And.intro ?_ ?_));(all_goals(conv=>whnf)));all_goals exact Et _) ?_
  intro i hi
  by_cases hik:i<b.length
  ·have gi:decide ((i:Int)<b.length)=true:=decide_eq_true (by omega)
   obtain⟨x,hx⟩:∃x,b[i]?=some x:=⟨_,List.getElem?_eq_getElem hik⟩
   have hx':=gB hx
   have hil:i<(P9 i b).length:=by rw[Yu];exact hik
   have hs:=Yv hx
   (repeat'((conv=>whnf);first|refine NBr.pos asQ ?_|refine NStep.go (De rfl rfl (ltN rfl) Tryz.underlying22 rfl) ?_|refine NStep.go (Fc i rfl rfl (ltN rfl) Tryz.underlying22 tyB rfl rfl rfl hik) ?_|refine NStep.go (Fd rfl rfl (ltN rfl) rfl rfl hx') ?_|(with_reducible refine NInt.octZ (x.toNat+1) ?_)|refine NStep.go (Eh rfl rfl rfl rfl rfl hil) ?_|(with_reducible refine NInt.i64 ?_)));(all_goals(conv=>whnf))
   refine⟨i+1,by omega,by omega,?_⟩
   rw[←hs]
   ((repeat'(first|exact trivial|exact Bb _|refine And.intro ?_ ?_));(all_goals(conv=>whnf)))
   all_goals exact Et _
  ·have gi:decide ((i:Int)<b.length)=false:=decide_eq_false (by omega)
   (repeat'((conv=>whnf);first|refine NBr.neg asQ ?_|refine NBr.no ?_|refine Lu clQ ?_|refine NStep.go (De rfl rfl (ltN rfl) Tryz.underlying22 rfl) ?_|refine NStep.call (hM) rfl rfl (ltN rfl) 3000 clQ rfl rfl rfl ?_|refine NCall.eq hR Lv ?_|refine NCall.le hC Kl ?_|(refine NBr.mk (fun hc=> ?_) (fun hc=> ?_)<;>(have hcP:=hc;(try simp only[beq_iff_eq,beq_eq_false_iff_ne,ne_eq,Bool.not_eq_true',Bool.not_eq_false'] at hcP)<;>first|(exfalso;omega)|skip))));(all_goals(conv=>whnf))
   refine NLoop.go (fun i:Nat=>i=0) (fun i=>i) (fun i=>⟨[(7,As),(8,iv 8),(10,bv false),(11,iv 0)],[],[]⟩) 0 rfl leQ ?_
   rintro j rfl
   (repeat'((conv=>whnf);first|refine NBr.yes ?_|refine NBr.no ?_|refine NStep.go (Fv (sz:=1) rfl rfl (ltN rfl) Tryz.underlying22 rfl rfl) ?_));(all_goals(conv=>whnf))
   all_goals exact NEnd.eq leQ
theorem gnsM.q {l:List Gn} (h:gnsM l):l.length≤1000000∧∀p∈l,p.eqs:=⟨h.n,fun g hg=>(h.m g hg).s.z.q⟩
theorem DD {l:List Gn} (h:F2 l=true):gnsZ l:=by
 obtain⟨h1,h2,h3⟩:=Uk h
 exact⟨by omega,fun g hg=>(h2.m g hg).s.z,by omega⟩
theorem Bm {p:Prop} (h:p:=by first|rfl|(simp only[AV.gives,AV.ren,AV.give,D.un,D.uns,Ah,Aj,List.nil_append,List.append_nil,List.cons_append,Am,A0,Cp,Bf,Ay,Ci,Cn,Cq,Bs,Cf,Bg,Kf,Ke];first|done|rfl)):p:=h
theorem yY (l:List Gn) (h:l.length≤big∧∀g∈l,g.ok):Aa Tryz.prog 9 [.d (Ei l)] (fun r=>r=bv true):=by
 have hA:=Io
 have hF:=Oj l h
 cases hf:F2 l
 ·rw[hf] at hF
  refine acQ 75 Tryz.func9 rfl rfl fun _ _ _=> ?_
  (repeat'((conv=>whnf);first|refine NBr.yes ?_|refine NBr.no ?_|refine NCall.eq hA rfl ?_|refine NCall.eq hF Bm ?_));(all_goals(conv=>whnf))
  all_goals exact NEnd.eq leQ
 rw[hf] at hF
 obtain⟨n1,hm,n3⟩:=Uk hf
 have hz:=DD hf
 have hl:=(bZ (v:=l) (by omega)).2
 have hM:=Kg l hm
 have hR:=Wl l hz
 have hV:=Un l hm
 have hW:=Wk l hz
 cases hw:Ny l
 ·rw[hw] at hM hR hV hW
  have hM:Aa Tryz.prog 24 [.d (Ei l)] (fun r=>r= .tup [As,iv 8]):=hM
  have hR:Aa Tryz.prog 27 [.d (Ei l)] (fun r=>r= .tup [As,iv 8]):=hR
  have hB:=Au false false [] [] (by simp) (by simp)
  rw[beq_self_eq_true] at hB
  refine acQ 75 Tryz.func9 rfl rfl fun _ _ _=> ?_
  (repeat'((conv=>whnf);first|refine NBr.yes ?_|refine NBr.no ?_|refine NCall.eq hA rfl ?_|refine NCall.eq hF Bm ?_|refine NCall.eq hM Bm ?_|refine NCall.eq hR Bm ?_|refine NCall.eq hV Bm ?_|refine NCall.eq hW Bm ?_|refine NCall.le hB Kl ?_));(all_goals(conv=>whnf))
  all_goals exact NEnd.eq leQ
 ·rw[hw] at hM hR hV hW
  have hM:Aa Tryz.prog 24 [.d (Ei l)] (fun r=>r= .tup [Ap 0 5 (Cv l),iv 0]):=hM
  have hR:Aa Tryz.prog 27 [.d (Ei l)] (fun r=>r= .tup [Ap 0 5 (Cv l),iv 0]):=hR
  obtain⟨w0,w1⟩:=Ge.1 hw
  have hP:=Lt (Cv l) (by omega)
  rw[Yt w0 w1 hm] at hP
  have hP:Aa Tryz.prog 25 [.d (Ac false (Cv l))] (fun r=>r= .tup [.d (uP l),erA 0 0]):=hP
  have hC:=Gc l l hm.q hm.q
  rw[decide_eq_true rfl] at hC
  have hB:=Au false false (Cv l) (Cv l) (by omega) (by omega)
  rw[beq_self_eq_true] at hB
  generalize Cv l=b at hM hR hP hB
  refine acQ 75 Tryz.func9 rfl rfl fun _ _ _=> ?_
  (repeat'((conv=>whnf);first|refine NBr.yes ?_|refine NBr.no ?_|refine NCall.eq hA rfl ?_|refine NCall.eq hF Bm ?_|refine NCall.eq hM Bm ?_|refine NCall.eq hR Bm ?_|refine NCall.eq hV Bm ?_|refine NCall.eq hW Bm ?_|refine NCall.eq hP Bm ?_|refine NCall.eq hC Bm ?_|refine NCall.eq hB Bm ?_|refine NStep.go (Vu rfl rfl (ltN rfl) rfl rfl) ?_));(all_goals(conv=>whnf))
  all_goals exact NEnd.eq leQ
theorem gD (b:List UInt8) (hb:b.length≤big):Aa Tryz.prog 10 [.d (Ac false b)] (fun r=>r=bv true):=by
 have hA:=Io
 unfold big at hb
 by_cases h1:(b.length:Int)>3000
 ·have g1:decide ((b.length:Int)>3000)=true:=decide_eq_true h1
  refine acQ 81 Tryz.func10 rfl rfl fun _ _ _=> ?_
  (repeat'((conv=>whnf);first|refine NBr.pos asQ ?_|refine NBr.no ?_|refine NCall.eq hA rfl ?_));(all_goals(conv=>whnf))
  all_goals exact NEnd.eq leQ
 have g1:decide ((b.length:Int)>3000)=false:=decide_eq_false h1
 have hl:b.length≤3000:=by omega
 have hP:=Lt b (by omega)
 have hR:=nS b hl
 rcases jT b (by omega) with⟨v,h0,hw,he,ho⟩|⟨c,o,hc0,hof,ho⟩
 ·obtain⟨hm,e1,e2⟩:=nU h0 hw he hl
  rw[e1,if_pos e2] at hR
  rw[ho] at hP
  have hP:Aa Tryz.prog 25 [.d (Ac false b)] (fun r=>r= .tup [.d (uP v),erA 0 0]):=hP
  have hM:=Kg v hm
  rw[Ge.2 ⟨h0,hw⟩,←he] at hM
  have hM:Aa Tryz.prog 24 [.d (Ei v)] (fun r=>r= .tup [Ap 0 5 b,iv 0]):=hM
  have hV:=Un v hm
  rw[Ge.2 ⟨h0,hw⟩] at hV
  have hC:=Gc v v hm.q hm.q
  rw[decide_eq_true rfl] at hC
  have hW:=P2 0 0 b.length (fun _=>rfl) (fun h=>absurd rfl h)
  have hB:=Au false false b b (by omega) (by omega)
  rw[beq_self_eq_true] at hB
  refine acQ 81 Tryz.func10 rfl rfl fun _ _ _=> ?_
  (repeat'((conv=>whnf);first|refine NBr.neg asQ ?_|refine NBr.yes ?_|refine NBr.no ?_|refine NCall.eq hA rfl ?_|refine NCall.eq hP Bm ?_|refine NCall.eq hR Bm ?_|refine NCall.eq hC Bm ?_|refine NCall.eq hW rfl ?_|refine NCall.eq hM Bm ?_|refine NCall.eq hV Bm ?_|refine NCall.eq hB Bm ?_));(all_goals(conv=>whnf))
  all_goals exact NEnd.eq leQ
 ·rw[uR ho hl,if_neg (by simp)] at hR
  rw[ho] at hP
  have hP:Aa Tryz.prog 25 [.d (Ac false b)] (fun r=>r= .tup [As,erA c o]):=hP
  have hC:=Gc [] [] ⟨by simp,by simp⟩ ⟨by simp,by simp⟩
  rw[decide_eq_true rfl] at hC
  have hW:=P2 c o b.length (fun h=>absurd h hc0) (fun _=>hof)
  have gc:((c:Int)==0)=false:=by rw[beq_eq_false_iff_ne];omega
  refine acQ 81 Tryz.func10 rfl rfl fun _ _ _=> ?_
  (repeat'((conv=>whnf);first|refine NBr.neg asQ ?_|refine NBr.yes ?_|refine NBr.no ?_|refine NCall.eq hA rfl ?_|refine NCall.eq hP Bm ?_|refine NCall.eq hR Bm ?_|refine NCall.le hC Kl ?_|refine NCall.eq hW rfl ?_|(refine NBr.mk (fun hc=> ?_) (fun hc=> ?_)<;>(have hcP:=hc;(try simp only[beq_iff_eq,beq_eq_false_iff_ne,ne_eq,Bool.not_eq_true',Bool.not_eq_false'] at hcP)<;>first|(exfalso;omega)|skip))));(all_goals(conv=>whnf))
  all_goals exact NEnd.eq leQ
theorem D3 {p:Prop} (h:p:=by first|rfl|(simp only[AV.gives,AV.ren,AV.give,D.un,D.uns,Ah,Aj,List.nil_append,List.append_nil,List.cons_append,Am,A0,Cp,Bf,Ay,Ci,Cn,Cq,Bs,Cf,Bg,Kf,Ke];first|done|rfl)):p:=h
theorem yZ (l:List Gn) (at':UInt16) (x:UInt8) (h:l.length≤big∧∀g∈l,g.ok):Aa Tryz.prog 8 [.d (Ei l),.d (.v (.int .u16 at'.toNat)),cv x.toNat] (fun r=>r=bv true):=by
 have hA:=Io
 have hF:=Oj l h
 have hat:=at'.toNat_lt
 cases hf:F2 l
 ·rw[hf] at hF
  refine acQ 93 Tryz.func8 rfl rfl fun _ _ _=> ?_
  (repeat'((conv=>whnf);first|refine NBr.yes ?_|refine NBr.no ?_|refine NCall.eq hA rfl ?_|refine NCall.eq hF D3 ?_));(all_goals(conv=>whnf))
  all_goals exact NEnd.eq leQ
 rw[hf] at hF
 obtain⟨n1,hm,n2⟩:=Uk hf
 obtain⟨hge,n3⟩:=bZ (v:=l) (by omega)
 have hM:=Kg l hm
 cases hok:Ny l
 ·rw[hok] at hM
  have hM:Aa Tryz.prog 24 [.d (Ei l)] (fun r=>r= .tup [As,iv 8]):=hM
  refine acQ 93 Tryz.func8 rfl rfl fun _ _ _=> ?_
  (repeat'((conv=>whnf);first|refine NBr.yes ?_|refine NBr.no ?_|refine NCall.eq hA rfl ?_|refine NCall.eq hF D3 ?_|refine NCall.eq hM D3 ?_));(all_goals(conv=>whnf))
  all_goals exact NEnd.eq leQ
 rw[hok] at hM
 have hM:Aa Tryz.prog 24 [.d (Ei l)] (fun r=>r= .tup [Ap 0 5 (Cv l),iv 0]):=hM
 have hpl:=Yt (Ge.1 hok).1 (Ge.1 hok).2 hm
 have hpos:0<(Cv l).length:=by omega
 obtain⟨y,hy⟩:∃y,(Cv l)[at'.toNat%(Cv l).length]?=some y:=⟨_,List.getElem?_eq_getElem (Nat.mod_lt _ hpos)⟩
 have hi:=Nat.mod_lt at'.toNat hpos
 have hP:=Lt ((Cv l).set (at'.toNat%(Cv l).length) x) (by rw[List.length_set];omega)
 have htwo:=jT ((Cv l).set (at'.toNat%(Cv l).length) x) (by rw[List.length_set];omega)
 have hxy:=Wo (x:=x) hy
 have gl:(((Cv l).length:Int)==0)=false:=by rw[beq_eq_false_iff_ne];omega
 have hbl:((Cv l).set (at'.toNat%(Cv l).length) x).length=(Cv l).length:=List.length_set
 have hxi:((x.toNat:Int)==(y.toNat:Int))=decide (x=y):=by
  rw[Bool.eq_iff_iff,beq_iff_eq,decide_eq_true_eq,←UInt8.toNat_inj];omega
 generalize hb:Cv l=b at hM hpl hpos hy hi hP htwo hxy gl hbl n3
 generalize hj:at'.toNat%b.length=i at hy hi hP htwo hxy hbl
 have hrem:((at'.toNat:Int)).tmod (b.length:Int)=(i:Int):=by rw[Int.tmod_eq_emod_of_nonneg (by omega),←hj];rfl
 rcases htwo with⟨w,h0,hw,he,hp⟩|⟨c,o,hc0,ho,hp⟩
 ·have k2:=Ul hw (by
   have q1:=Dm 0 16 true (w.map gnE).flatten
   have q2:(Cv w).length=b.length:=by rw[←he,hbl]
   unfold Cv at q2;omega)
  have hM2:=Kg w k2
  rw[Ge.2 ⟨h0,hw⟩,←he] at hM2
  have hM2:Aa Tryz.prog 24 [.d (Ei w)] (fun r=>r= .tup [Ap 0 5 (b.set i x),iv 0]):=hM2
  have hC:=Gc w l k2.q hm.q
  have hB:=Au false false (b.set i x) (b.set i x) (by omega) (by omega)
  rw[beq_self_eq_true] at hB
  have hwl:decide (w=l)=decide (x=y):=by
   rw[Bool.eq_iff_iff,decide_eq_true_eq,decide_eq_true_eq,←hxy]
   constructor
   ·rintro rfl;rw[he];exact hb
   ·intro e;exact uQ hw (Ge.1 hok).2 k2 hm (by rw[←he,hb];exact e)
  rw[hwl] at hC
  rw[hp] at hP
  have hP:Aa Tryz.prog 25 [.d (Ac false (b.set i x))] (fun r=>r= .tup [.d (uP w),erA 0 0]):=hP
  refine acX 93 [24] Tryz.func8 rfl rfl fun _ _ _=> ?_
  (repeat'((conv=>whnf);first|refine NBr.neg asQ ?_|refine NBr.yes ?_|refine NBr.no ?_|refine NCall.eq hA rfl ?_|refine NCall.eq hF D3 ?_|refine NStep.callX (hM) (hpos) rfl rfl rfl (ltN rfl) 2000 rfl rfl rfl D3 ?_|refine NStep.go (De rfl rfl (ltN rfl) Tryz.underlying22 rfl) ?_|refine NInt.as ((i:Int)) (hrem) ?_|refine NStep.go (Fc i rfl rfl (ltN rfl) Tryz.underlying22 tyB rfl rfl rfl hi) ?_|refine NStep.go (Fd rfl rfl (ltN rfl) rfl rfl hy) ?_|refine NStep.go (Eh rfl rfl rfl rfl rfl hi) ?_|refine NStep.frz2 7 51 2000 _ (hbl.symm) rfl rfl rfl ?_|refine NStep.call (hP) rfl rfl (ltN rfl) 4000 rfl rfl rfl D3 ?_|refine NStep.call (hM2) rfl rfl (ltN rfl) 3000 rfl rfl rfl D3 ?_|refine NCall.eq hC D3 ?_|refine NCall.eq hB D3 ?_|(with_reducible refine NInt.i64 ?_)|refine NFact.go (by first|decide|omega|(simp only[List.length_cons,List.length_nil];omega)) ?_));(all_goals(conv=>whnf))
  all_goals(refine NEnd.eq ?_;(repeat'(first|refine And.intro ?_ ?_|exact rfl));(all_goals(conv=>whnf)))
  all_goals(rw[hxi];exact beq_self_eq_true _)
 ·have hne:¬x=y:=fun e=>by
   have h1:=hxy.2 e
   rw[h1,hpl] at hp
   cases hp
  rw[hp] at hP
  have hP:Aa Tryz.prog 25 [.d (Ac false (b.set i x))] (fun r=>r= .tup [As,erA c o]):=hP
  have hC:=Gc [] [] ⟨by simp,by simp⟩ ⟨by simp,by simp⟩
  rw[decide_eq_true rfl] at hC
  have hW:=P2 c o (b.set i x).length (fun h=>absurd h hc0) (fun _=>ho)
  have gc:((c:Int) !=0)=true:=by rw[bne_iff_ne];omega
  have gx:((x.toNat:Int) !=(y.toNat:Int))=true:=by rw[bne,hxi,decide_eq_false hne];rfl
  refine acX 93 [24] Tryz.func8 rfl rfl fun _ _ _=> ?_
  (repeat'((conv=>whnf);first|refine NBr.pos asQ ?_|refine NBr.neg asQ ?_|refine NBr.yes ?_|refine NBr.no ?_|refine NCall.eq hA rfl ?_|refine NCall.eq hF D3 ?_|refine NStep.callX (hM) (hpos) rfl rfl rfl (ltN rfl) 2000 rfl rfl rfl D3 ?_|refine NStep.go (De rfl rfl (ltN rfl) Tryz.underlying22 rfl) ?_|refine NInt.as ((i:Int)) (hrem) ?_|refine NStep.go (Fc i rfl rfl (ltN rfl) Tryz.underlying22 tyB rfl rfl rfl hi) ?_|refine NStep.go (Fd rfl rfl (ltN rfl) rfl rfl hy) ?_|refine NStep.go (Eh rfl rfl rfl rfl rfl hi) ?_|refine NStep.frz2 7 51 2000 _ (hbl.symm) rfl rfl rfl ?_|refine NStep.call (hP) rfl rfl (ltN rfl) 4000 rfl rfl rfl D3 ?_|refine NStep.go (Fv (sz:=1) rfl rfl (ltN rfl) Tryz.underlying22 rfl rfl) ?_|refine NCall.le hC Kl ?_|refine NCall.eq hW rfl ?_|(with_reducible refine NInt.i64 ?_)|refine NFact.go (by first|decide|omega|(simp only[List.length_cons,List.length_nil];omega)) ?_));(all_goals(conv=>whnf))
  all_goals exact NEnd.eq leQ
end Go.Proofs.YtngbfblmejjipaaGreatDoor
