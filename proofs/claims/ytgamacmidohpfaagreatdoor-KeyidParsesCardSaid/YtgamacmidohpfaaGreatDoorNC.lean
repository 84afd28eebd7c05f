/- NC: the text LawYM. No condition but what each lemma says. -/
import Derived.Test.YtgamacmidohpfaaGreatDoorNI
import Derived.Test.YtgamacmidohpfaaGreatDoorNA
set_option maxRecDepth 100000
set_option maxHeartbeats 16000000
namespace Go.Proofs.YtgamacmidohpfaaGreatDoor
open Go.RowKit
theorem Bb {p:Prop} (h:p:=by first|rfl|(simp only[AV.gives,AV.ren,AV.give,D.un,D.uns,Ag,Af,List.nil_append,List.append_nil,List.cons_append,AV.frz,AV.frzs,Ai,Al,As,Aq,An,Ar,Ax,Ck,Bq,Ce,Bg,J9,J8];first|done|rfl)):p:=h
theorem Jo (k:Kd) (h:k.mid) (hl:(kdE k).length≤400000):Aa Tryz.prog 14 [kdA k] (fun r=>r=P0 (kdW k) (kdE k)):=by
 have hV:=Jm k h
 have hd:=h.d
 have hs:=h.s
 cases hw:kdW k
 ·rw[hw] at hV
  refine acQ 58 Tryz.func14 rfl rfl fun _ _ _=> ?_
  (repeat'((conv=>whnf);first|refine NBr.yes ?_|refine NCall.eq hV Bb ?_));(all_goals(conv=>whnf))
  all_goals exact NEnd.eq leQ
 rw[hw] at hV
 show Aa _ _ _ (fun r=>r= .tup [Au 0 5 (kdE k),iv 0])
 by_cases i0:k.iss=[]
 ·cases hh:k.has
  ·have e:kdE k=Ae 0 16 true []:=by
    unfold kdE kdP
    rw[hh,if_neg (by simp),if_pos i0];rfl
   rw[e]
   have hS:=H5 [] (by simp) (by simp)
   have hS:Aa Tryz.prog 31 [.d (Cg [])] (fun r=>r= .tup [Au 0 5 (Ae 0 16 true []),iv 0]):=hS
   obtain⟨has,id,iss,ser⟩:=k
   simp only at i0 hh
   subst i0 hh
   refine acQ 58 Tryz.func14 rfl rfl fun _ _ _=> ?_
   (repeat'((conv=>whnf);first|refine NBr.no ?_|refine NCall.eq hV Bb ?_|refine NCall.le hS Ux ?_));(all_goals(conv=>whnf))
   all_goals exact NEnd.eq leQ
  ·have hM:=V7 k hh i0 (by omega) hV
   have e:kdE k=Ae 0 16 true (Ae 2 0 false k.id):=by
    unfold kdE kdP
    rw[hh,if_pos rfl,if_pos i0];simp
   rwa[e]
 ·have hwi:=(G7.1 hw).2
  have hg:=(hwi.resolve_left fun e=>i0 e.1).2.1
  have hL:=gH k.iss h.i
  rw[show Jl k.iss=true by rw[AH i0];exact hg] at hL
  exact V9 k (Bc k.iss) i0 (by omega) (by have:=vQ k hw;have:=Cm 0 16 true (kdP k (Bc k.iss)).flatten;have e:(kdE k).length=(Ae 0 16 true (kdP k (Bc k.iss)).flatten).length:=rfl;omega) (by omega) hV hL
theorem Kd.mid.q {k:Kd} (h:k.mid):k.eqs:=⟨by have:=h.d;omega,by have:=h.s;omega,⟨h.i.n,fun g hg=>(h.i.m g hg).s.z.q⟩⟩
theorem kG:kd0.eqs:=⟨by simp[kd0],by simp[kd0],⟨by simp[kd0],fun p hp=>by cases hp⟩⟩
theorem AR (b:List UInt8) (hb:b.length≤big):Aa Tryz.prog 5 [.d (Ac false b)] (fun r=>r=bv true):=by
 have hA:=Oq
 unfold big at hb
 by_cases h1:(b.length:Int)>3000
 ·have g1:decide ((b.length:Int)>3000)=true:=decide_eq_true h1
  refine acQ 81 Tryz.func5 rfl rfl fun _ _ _=> ?_
  (repeat'((conv=>whnf);first|refine NBr.pos asQ ?_|refine NBr.no ?_|refine NCall.eq hA rfl ?_));(all_goals(conv=>whnf))
  all_goals exact NEnd.eq leQ
 have g1:decide ((b.length:Int)>3000)=false:=decide_eq_false h1
 have hl:b.length≤3000:=by omega
 have hP:=Jn b (by omega)
 have hR:=vW b hl
 rcases Yw b (by omega) with⟨k,⟨hw,he⟩,ho⟩|⟨c,o,hc0,hof,ho⟩
 ·obtain⟨hm,e1,e2⟩:=oN hw he hl
  rw[e1,if_pos e2] at hR
  rw[ho] at hP
  have hP:Aa Tryz.prog 18 [.d (Ac false b)] (fun r=>r= .tup [kdQ k,erA 0 0]):=hP
  have hM:=Jo k hm (by rw[←he];omega)
  rw[hw,←he] at hM
  have hM:Aa Tryz.prog 14 [kdA k] (fun r=>r= .tup [Au 0 5 b,iv 0]):=hM
  have hV:=Jm k hm
  rw[hw] at hV
  have hC:=Uq k k hm.q hm.q
  rw[decide_eq_true rfl] at hC
  have hW:=fT 0 0 b.length (fun _=>rfl) (fun h=>absurd rfl h)
  have hB:=A7 false false b b (by omega) (by omega)
  rw[beq_self_eq_true] at hB
  refine acQ 81 Tryz.func5 rfl rfl fun _ _ _=> ?_
  (repeat'((conv=>whnf);first|refine NBr.neg asQ ?_|refine NBr.yes ?_|refine NBr.no ?_|refine NCall.eq hA rfl ?_|refine NCall.eq hP Bb ?_|refine NCall.eq hR Bb ?_|refine NCall.eq hC Bb ?_|refine NCall.eq hW rfl ?_|refine NCall.eq hM Bb ?_|refine NCall.eq hV Bb ?_|refine NCall.eq hB Bb ?_));(all_goals(conv=>whnf))
  all_goals exact NEnd.eq leQ
 ·rw[vU ho hl,if_neg (by simp)] at hR
  rw[ho] at hP
  have hP:Aa Tryz.prog 18 [.d (Ac false b)] (fun r=>r= .tup [.agg [bv false,Av,Av,Av],erA c o]):=hP
  have hC:=Uq kd0 kd0 kG kG
  rw[decide_eq_true rfl] at hC
  unfold kd0 at hC
  have hW:=fT c o b.length (fun h=>absurd h hc0) (fun _=>hof)
  have gc:((c:Int)==0)=false:=by rw[beq_eq_false_iff_ne];omega
  refine acQ 81 Tryz.func5 rfl rfl fun _ _ _=> ?_
  (repeat'((conv=>whnf);first|refine NBr.neg asQ ?_|refine NBr.yes ?_|refine NBr.no ?_|refine NCall.eq hA rfl ?_|refine NCall.eq hP Bb ?_|refine NCall.eq hR Bb ?_|refine NCall.le hC Ux ?_|refine NCall.eq hW rfl ?_|(refine NBr.mk (fun hc=> ?_) (fun hc=> ?_)<;>(have hcP:=hc;(try simp only[beq_iff_eq,beq_eq_false_iff_ne,ne_eq,Bool.not_eq_true',Bool.not_eq_false'] at hcP)<;>first|(exfalso;omega)|skip))));(all_goals(conv=>whnf))
  all_goals exact NEnd.eq leQ
end Go.Proofs.YtgamacmidohpfaaGreatDoor
