/- ND: the texts KyL1, one behind the other. No condition but what each lemma says. -/
import Derived.Test.YtgamacmidohpfaaGreatDoorMX
namespace Go.Proofs.YtgamacmidohpfaaGreatDoor
open Go.RowKit
set_option maxRecDepth 100000
set_option maxHeartbeats 16000000
abbrev kdQ (k:Kd):AV:= .agg [bv k.has,.d (Ag true k.id),.d (Y0 k.iss),.d (Ag true k.ser)]
def kyR:Option Kd×Nat×Nat→AV
 |(some k,_)=> .tup [kdQ k,erA 0 0]
 |(none,c,o)=> .tup [.agg [bv false,Bc,Bc,Bc],erA c o]
theorem Kf {P:Program} {C:Cx} {o:Oper} {σ:AS} {t:Nat} {x:Operand} {k i:Nat} (ho:o.op= .nilCheck x) (hd:o.dst=some t) (ht:t<C.N) (hx:σ.eval x=some (.ptr k i)):Bo P C o σ (σ.put t (.ptr k i)):=
 A7 hd ht fun a w bm gt fp hg=>by
  have h:=hg.eval hx
  generalize hv:a.eval x=v at h
  cases h with
  |ptr=>exact⟨_,by simp only[execOp,ho,hv];rfl,.ptr⟩
theorem cK {α:Type} (x:α) (r:List α):((x::r).drop 1).take ((x::r).length-1)=r:=by simp
theorem Mg (c:List UInt8) (h:c.length≤800000):Ab Tryz.prog 31 [.d (C7 [c])] (fun r=>r= .tup [Be 0 5 (Ai 0 16 true c),iv 0]):=by
 have hS:=I0 [c] (by simp;omega) (by simp)
 rwa[show [c].flatten=c by simp] at hS
theorem Dz {p:Prop} (h:p:=by first|rfl|(simp only[AV.gives,AV.ren,AV.give,D.un,D.uns,Al,Ak,List.nil_append,List.append_nil,List.cons_append,As,A0,Bb,A5,A2,Ba,Bi,Dn,Cq,C9,Cl,Ep,Er,Pp,Sa,R9];first|done|rfl)):p:=h
theorem vX {p:Prop} (h:p:=by((try simp only[AV.gives,AV.ren,AV.give,D.un,D.uns,Al,Ak,List.nil_append,List.append_nil,List.cons_append,As,A0,Bb,A5,A2,Ba,Bi,Dn,Cq,C9,Cl,Ep,Er,Pp,Sa,R9]);(repeat'(first|exact trivial|exact Ay _|refine And.intro ?_ ?_|exact rfl|exact Or.inr rfl|exact Or.inl rfl|exact Or.inl (by rfl)|omega|refine Or.inr ?_));first|done|fail)):p:=h
def kyA (b:List UInt8) (l:List El) (has:Bool) (id:List UInt8) (l1:List El):Prop:=(l=[]∧l1=[]∧has=false∧id=[])∨(∃x r,l=x::r∧l1=x::r∧has=false∧id=[]∧(!x.isB 2 0 false)=true)∨(∃x0,l=x0::l1∧has=true∧id=bod b x0∧(!x0.isB 2 0 false)=false∧x0.body≤x0.stop∧x0.stop≤b.length)
def kyB (b:List UInt8) (l1:List El) (iss:List Gn) (l2:List El):Prop:=(l1=[]∧l2=[]∧iss=[])∨(∃y s,l1=y::s∧l2=y::s∧iss=[]∧(!y.isB 2 1 true)=true)∨(∃x1,l1=x1::l2∧(!x1.isB 2 1 true)=false∧x1.body≤x1.stop∧x1.stop≤b.length∧Ab Tryz.prog 40 [.d (Ag false (Ai 0 16 true (bod b x1)))] (fun r=>r= .tup [.d (Y0 iss),erA 0 0]))
def kyC (b:List UInt8) (l2:List El) (ser:List UInt8) (l3:List El):Prop:=(l2=[]∧l3=[]∧ser=[])∨(∃z u,l2=z::u∧l3=z::u∧ser=[]∧(!z.isB 2 2 false)=true)∨(∃x2,l2=x2::l3∧ser=bod b x2∧(!x2.isB 2 2 false)=false∧x2.body≤x2.stop∧x2.stop≤b.length∧(((bod b x2).length:Int)==0)=false)
abbrev kyH (b:List UInt8) (l:List El):Prop:=Ab Tryz.prog 37 [.d (Ag false b),iv (0:Nat),iv (16:Nat)] (fun r=>r= .tup [.d (fB l),erA 0 0])
theorem AP (b:List UInt8) (hb:b.length≤390000) {l:List El} (hP:kyH b l) {has:Bool} {id:List UInt8} {x1:El} {l2:List El} {c o:Nat} (c0:kyA b l has id (x1::l2)) (a1:(!x1.isB 2 1 true)=false) (u1:x1.body≤x1.stop) (u2:x1.stop≤b.length) (gc:((c:Int) !=0)=true) (hL:Ab Tryz.prog 40 [.d (Ag false (Ai 0 16 true (bod b x1)))] (fun r=>r= .tup [Bc,erA c o])):Ab Tryz.prog 18 [.d (Ag false b)] (fun r=>r=kyR (none,6,x1.body)):=by
 have hcl:∀a n,((b.drop a).take n).length≤390000:=fun a n=>by rw[Am,Az];omega
 unfold kyH at hP
 unfold kyA bod at c0
 unfold bod at hL
 rcases c0 with⟨rfl,h,-,-⟩|⟨x,r,rfl,h,rfl,rfl,a0⟩|⟨x0,rfl,rfl,rfl,a0,t1,t2⟩
 ·cases h
 all_goals try cases h
 all_goals
  refine acQ 127 Tryz.func18 rfl rfl fun _ _ _=> ?_
  (repeat'((conv=>whnf);first|refine zP ?_|refine zN ?_|refine Ac ?_|refine Af ?_|refine Aa hP Dz ?_|refine Aa ((Ez _ 2 0 false)) rfl ?_|refine Aa ((Ez _ 2 1 true)) rfl ?_|refine NIdx.tab (fun _=>rfl) rfl ?_|(refine NSl.tab (fun _=>rfl) 1 _ _ (cK _ _) ?_)|refine NSl.slice (x0.body) (x0.stop) ?_|refine NSl.slice (x1.body) (x1.stop) ?_|refine Aa ((Fj ((b.drop _).take _) (Nat.le_trans (hcl _ _) (by omega)))) Dz ?_|refine Aa ((Mg ((b.drop _).take _) (Nat.le_trans (hcl _ _) (by omega)))) Dz ?_|refine Aa hL Dz ?_|refine An (Kf rfl rfl (ltN rfl) rfl) ?_|(refine NStep.inl 200 43 _ C5 mixed rfl rfl rfl Tryz.func38 rfl (by kernel_rfl) rfl rfl rfl rfl (fun gh=> ?_))|refine zF ?_|exact zE))
theorem AQ (b:List UInt8) (hb:b.length≤390000) {l l1:List El} (hP:kyH b l) {has:Bool} {id:List UInt8} {iss:List Gn} {x2:El} {l3:List El} (c0:kyA b l has id l1) (c1:kyB b l1 iss (x2::l3)) (a2:(!x2.isB 2 2 false)=false) (v1:x2.body≤x2.stop) (v2:x2.stop≤b.length) (gz2:(((bod b x2).length:Int)==0)=true):Ab Tryz.prog 18 [.d (Ag false b)] (fun r=>r=kyR (none,6,x2.body)):=by
 have hcl:∀a n,((b.drop a).take n).length≤390000:=fun a n=>by rw[Am,Az];omega
 unfold kyH at hP
 unfold kyA bod at c0
 unfold kyB bod at c1
 unfold bod at gz2
 rcases c1 with⟨-,h,-⟩|⟨y,s,rfl,h,rfl,a1⟩|⟨x1,rfl,a1,u1,u2,hL⟩
 ·cases h
 all_goals try cases h
 all_goals rcases c0 with⟨rfl,h,-,-⟩|⟨x,r,rfl,h,rfl,rfl,a0⟩|⟨x0,rfl,rfl,rfl,a0,t1,t2⟩
 all_goals try cases h
 all_goals
  refine acQ 127 Tryz.func18 rfl rfl fun _ _ _=> ?_
  (repeat'((conv=>whnf);first|refine zP ?_|refine zN ?_|refine Ac ?_|refine Af ?_|refine Aa hP Dz ?_|refine Aa ((Ez _ 2 0 false)) rfl ?_|refine Aa ((Ez _ 2 1 true)) rfl ?_|refine Aa ((Ez _ 2 2 false)) rfl ?_|refine NIdx.tab (fun _=>rfl) rfl ?_|(refine NSl.tab (fun _=>rfl) 1 _ _ (cK _ _) ?_)|refine NSl.slice (x0.body) (x0.stop) ?_|refine NSl.slice (x1.body) (x1.stop) ?_|refine NSl.slice (x2.body) (x2.stop) ?_|refine Aa ((Fj ((b.drop _).take _) (Nat.le_trans (hcl _ _) (by omega)))) Dz ?_|refine Aa ((Mg ((b.drop _).take _) (Nat.le_trans (hcl _ _) (by omega)))) Dz ?_|refine Aa hL Dz ?_|refine An (Kf rfl rfl (ltN rfl) rfl) ?_|(refine NStep.inl 200 43 _ C5 mixed rfl rfl rfl Tryz.func38 rfl (by kernel_rfl) rfl rfl rfl rfl (fun gh=> ?_))|refine zF ?_|exact zE))
end Go.Proofs.YtgamacmidohpfaaGreatDoor
