/- NA: the texts BsP BsM PkM BsV BsE BsD BsR Bol, one behind the other. No condition but what each lemma says. -/
import Derived.Test.YtokmjjkbginodaaGreatDoorMD
import Derived.Laws.MakeOwn
namespace Go.Proofs.YtokmjjkbginodaaGreatDoor
open Go.RowKit
set_option maxRecDepth 100000
def PT (x:Nat):Nat:=(List.range 8).foldl (fun a i=>a+(if x.testBit i then 2^(7-i) else 0)) 0
def Dd (s:Nat):List UInt8:=if s=0 then [0] else if s<256 then [UInt8.ofNat (7-s.log2),UInt8.ofNat (PT s)] else [7,UInt8.ofNat (PT (s%256)),128]
def Gp (l:List UInt8) (i:Nat):Bool:=((l.getD (i/8) 0).toNat>>>(7-i%8))%2==1
def stN (f:Nat→Bool):Nat→Nat
 |0=>0
 |i+1=>if f i then stN f i|||(1<<<i) else stN f i
def Dq (l:List UInt8) (u:Nat):Bool:=match l.getLast? with
 |none=>u==0
 |some x=>decide (u≤7)&&(x.toNat%2^u==0)
def Q9:List UInt8→Option Nat
 |[]=>none
 |u::l=>if Dq l u.toNat=true∧8*l.length-u.toNat≤9∧(0<8*l.length-u.toNat→Gp l (8*l.length-u.toNat-1)=true) then some (stN (Gp l) (8*l.length-u.toNat)) else none
theorem CK:∀s:Fin 512,Q9 (Dd s)=some s.val:=by decide+kernel
theorem QM:∀u:Fin 256,(Q9 [UInt8.ofNat u]).all (fun s=>Dd s==[UInt8.ofNat u]&&decide (s<512))=true:=by decide+kernel
theorem QN:∀u:Fin 8,∀x:Fin 256,(Q9 [UInt8.ofNat u,UInt8.ofNat x]).all (fun s=>Dd s==[UInt8.ofNat u,UInt8.ofNat x]&&decide (s<512))=true:=by decide+kernel
theorem QO:∀x:Fin 256,∀y:Fin 2,(Q9 [7,UInt8.ofNat x,UInt8.ofNat (128*y)]).all (fun s=>Dd s==[7,UInt8.ofNat x,UInt8.ofNat (128*y)]&&decide (s<512))=true:=by decide+kernel
theorem CL {s:Nat} (h:s<512):Q9 (Dd s)=some s:=CK ⟨s,h⟩
theorem W4 {o:Option Nat} {s:Nat} {p:Nat→Bool} (h:o=some s) (ha:o.all p=true):p s=true:=by subst h;exact ha
theorem T4 (u:UInt8):UInt8.ofNat u.toNat=u:=UInt8.toNat_inj.1 (by rw[UInt8.toNat_ofNat'];exact Nat.mod_eq_of_lt u.toNat_lt)
theorem R9 {u:UInt8} {l:List UInt8} {s:Nat} (h:Q9 (u::l)=some s):Dq l u.toNat=true∧8*l.length-u.toNat≤9:=by
 have e:Q9 (u::l)=if Dq l u.toNat=true∧8*l.length-u.toNat≤9∧(0<8*l.length-u.toNat→Gp l (8*l.length-u.toNat-1)=true) then some (stN (Gp l) (8*l.length-u.toNat)) else none:=rfl
 rw[e] at h
 by_cases hc:Dq l u.toNat=true∧8*l.length-u.toNat≤9∧(0<8*l.length-u.toNat→Gp l (8*l.length-u.toNat-1)=true)
 ·exact⟨hc.1,hc.2.1⟩
 ·rw[if_neg hc] at h;cases h
theorem CM:∀{c:List UInt8} {s:Nat},Q9 c=some s→s<512∧c=Dd s:=by
 intro c s h
 match c,h with
 |[],h=>cases h
 |[u],h=>
  have:=W4 h (by have:=QM ⟨u.toNat,u.toNat_lt⟩;rw[T4] at this;exact this)
  simp only[At,beq_iff_eq,decide_eq_true_eq] at this
  exact⟨this.2,this.1.symm⟩
 |[u,x],h=>
  have hu:u.toNat<8:=by
   have:=(R9 h).1
   simp[Dq] at this
   omega
  have:=W4 h (by have:=QN ⟨u.toNat,hu⟩ ⟨x.toNat,x.toNat_lt⟩;rw[T4,T4] at this;exact this)
  simp only[At,beq_iff_eq,decide_eq_true_eq] at this
  exact⟨this.2,this.1.symm⟩
 |[u,x,y],h=>
  obtain⟨hu,hy⟩:u=7∧(y=0∨y=128):=by
   obtain⟨h1,h2⟩:=R9 h
   simp[Dq] at h1
   simp at h2
   have h7:u.toNat=7:=by omega
   have:u=7:=UInt8.toNat_inj.1 h7
   refine⟨this,?_⟩
   have h3:=h1.2
   rw[h7] at h3
   have:∀y:Fin 256,y.val%2^7=0→y.val=0∨y.val=128:=by decide+kernel
   rcases this ⟨y.toNat,y.toNat_lt⟩ h3 with h|h
   ·exact .inl (UInt8.toNat_inj.1 h)
   ·exact .inr (UInt8.toNat_inj.1 h)
  subst hu
  have h3:∃z:Fin 2,y=UInt8.ofNat (128*z):=by
   rcases hy with rfl|rfl
   ·exact⟨0,rfl⟩
   ·exact⟨1,rfl⟩
  obtain⟨z,rfl⟩:=h3
  have:=W4 h (by have:=QO ⟨x.toNat,x.toNat_lt⟩ z;rw[T4] at this;exact this)
  simp only[At,beq_iff_eq,decide_eq_true_eq] at this
  exact⟨this.2,this.1.symm⟩
 |u::x::y::z::r,h=>
  exfalso
  obtain⟨h1,h2⟩:=R9 h
  simp at h2
  unfold Dq at h1
  split at h1
  ·rename_i e;simp at e
  ·simp at h1;omega
def Tc (c:List UInt8):Option Nat:=(Q9 c).filter (fun s=>s !=0)
theorem CN {s:Nat} (h:s<512) (h0:s≠0):Tc (Dd s)=some s:=by
 unfold Tc
 rw[CL h]
 simp[Option.filter,h0]
theorem CO {c:List UInt8} {s:Nat} (h:Tc c=some s):0<s∧s<512∧c=Dd s:=by
 unfold Tc at h
 rw[Option.filter_eq_some_iff] at h
 obtain⟨h1,h2⟩:=h
 obtain⟨h3,h4⟩:=CM h1
 simp at h2
 exact⟨by omega,h3,h4⟩
def IK (u:UInt8) (l:List UInt8) (i:Nat):Bool:=decide (i<8*l.length-u.toNat)&&Gp l i
def Xz (u:UInt8) (l:List UInt8):Nat→Nat
 |0=>0
 |i+1=>Xz u l i+if IK u l i=true then 2^i else 0
def stR:List UInt8→Nat
 |[]=>0
 |u::l=>if Dq l u.toNat=true then Xz u l 9 else 0
def rdS (c:List UInt8):Nat:=if Dd (stR c)=c then stR c else 0
theorem IL:∀s:Fin 512,stR (Dd s)=s.val:=by decide+kernel
theorem IM {s:Nat} (h:s<512):rdS (Dd s)=s:=by
 unfold rdS
 have:=IL ⟨s,h⟩
 simp only at this
 rw[this,if_pos rfl]
theorem pX (u:UInt8) (l:List UInt8):∀i,Xz u l i<2^i
 |0=>by simp[Xz]
 |i+1=>by
  have:=pX u l i
  unfold Xz
  rw[Nat.pow_succ]
  split<;>omega
theorem NS (c:List UInt8):stR c<512:=by
 cases c with
 |nil=>simp[stR]
 |cons u l=>
  have:=pX u l 9
  show(if Dq l u.toNat=true then Xz u l 9 else 0)<512
  by_cases h:Dq l u.toNat=true
  ·rw[if_pos h];exact this
  ·rw[if_neg h];omega
theorem NT (c:List UInt8):rdS c<512:=by
 have:=NS c
 unfold rdS
 split<;>omega
set_option maxHeartbeats 8000000
def nbO (n:Nat):List D:=[.v (.int .i64 (n:Int))]
def mbI (s i:Nat):List Nat:=(List.range i).filter fun j=>s/2^j%2==1
def mbr (s:Nat):List Nat:=mbI s 9
theorem iA (s i:Nat):mbI s (i+1)=if s/2^i%2=1 then mbI s i++[i] else mbI s i:=by
 unfold mbI
 rw[List.range_succ,List.filter_append]
 by_cases h:s/2^i%2=1
 ·rw[if_pos h];simp[h]
 ·rw[if_neg h];simp[h]
theorem pY:∀s:Fin 512,∀i:Fin 10,s.val/2^i.val=0→mbI s i=mbr s:=by decide+kernel
theorem pZ (s i:Nat):(mbI s i).length≤i:=by
 unfold mbI
 exact Nat.le_trans (List.length_filter_le _ _) (by rw[List.length_range];exact Nat.le_refl _)
theorem NU {s i:Nat} (h:i≤64):(s:Int).fdiv (2^(min ((i:Nat):Int).toNat 64))=((s/2^i:Nat):Int):=by
 rw[Int.toNat_natCast,Nat.min_eq_left h,Int.fdiv_eq_ediv_of_nonneg _ (by exact_mod_cast Nat.zero_le (2^i)),Int.natCast_ediv,Int.natCast_pow];rfl
theorem QP {m:Nat} (h:m<512):IntKind.i64.wrap ((BitVec.ofInt IntKind.i64.bits (m:Int)&&&BitVec.ofInt IntKind.i64.bits 1).toNat:Int)=((m%2:Nat):Int):=by
 have:∀m:Fin 512,IntKind.i64.wrap ((BitVec.ofInt IntKind.i64.bits (m.val:Int)&&&BitVec.ofInt IntKind.i64.bits 1).toNat:Int)=((m.val%2:Nat):Int):=by decide+kernel
 exact this ⟨m,h⟩
theorem PU {s i:Nat} (hs:s<512) (h:s/2^i≠0):i<9:=by
 rcases Nat.lt_or_ge i 9 with h9|h9
 ·exact h9
 ·exfalso
  apply h
  rw[Nat.div_eq_zero_iff]
  have:2^9≤2^i:=Nat.pow_le_pow_right (by omega) h9
  right;omega
theorem uT (s:Nat) (hs:s<512):Ab Tryz.prog 77 [iv s] (fun r=>r=Bx 0 1 3 nbO (mbr s)):=by
 have g0:decide ((s:Int)<0)=false:=decide_eq_false (by omega)
 refine acQ 23 Tryz.func77 rfl rfl fun _ _ _=> ?_
 (repeat'((conv=>whnf);refine zN ?_));(all_goals(conv=>whnf))
 refine A5 [.s 3 1 3] (fun i:Nat=>i≤9) (fun i=>9-i) (fun i=>⟨[(0,iv s),(3,Bx 3 1 3 nbO (mbI s i)),(4,iv i)],[],[(3,((mbI s i).length,1,3))]⟩) 0 (by omega) leQ ?_
 intro i hi
 have hml:=pZ s i
 have hsh:=NU (s:=s) (i:=i) (by omega)
 have hd:=Nat.div_le_self s (2^i)
 by_cases h0:s/2^i=0
 ·have gi:(((s/2^i:Nat):Int) !=0)=false:=by rw[h0];rfl
  have he:=pY ⟨s,hs⟩ ⟨i,by omega⟩ h0
  simp only at he
  rw[he]
  (repeat'((conv=>whnf);first|refine zN ?_|refine NInt.as (((s/2^i:Nat):Int)) (hsh) ?_|refine Au (by first|decide|omega|(simp only[Ag,List.length_nil];omega)) ?_|exact zE))
 ·have gi:(((s/2^i:Nat):Int) !=0)=true:=by rw[bne_iff_ne];omega
  have h9:=PU hs h0
  have hsu:=iA s i
  have ha:=QP (m:=s/2^i) (by omega)
  generalize mbI s i=a at hml hsu
  by_cases h1:s/2^i%2=1
  ·rw[if_pos h1] at hsu
   have g1:(((s/2^i%2:Nat):Int) !=0)=true:=by rw[h1];rfl
   (repeat'((conv=>whnf);first|refine zP ?_|refine NInt.as (((s/2^i:Nat):Int)) (hsh) ?_|refine NInt.as (((s/2^i%2:Nat):Int)) (ha) ?_|refine A2 nbO i ?_|(with_reducible refine NInt.i64 ?_)|refine Au (by first|decide|omega|(simp only[Ag,List.length_nil];omega)) ?_));(all_goals(conv=>whnf))
   refine⟨i+1,by omega,by omega,?_⟩
   rw[hsu]
   exact leQ
  ·rw[if_neg h1] at hsu
   have g1:(((s/2^i%2:Nat):Int) !=0)=false:=by rw[show s/2^i%2=0 by omega];rfl
   (repeat'((conv=>whnf);first|refine zP ?_|refine zN ?_|refine NInt.as (((s/2^i:Nat):Int)) (hsh) ?_|refine NInt.as (((s/2^i%2:Nat):Int)) (ha) ?_|(with_reducible refine NInt.i64 ?_)|refine Au (by first|decide|omega|(simp only[Ag,List.length_nil];omega)) ?_));(all_goals(conv=>whnf))
   refine⟨i+1,by omega,by omega,?_⟩
   rw[hsu]
   exact leQ
theorem CP (s:Nat) (hs:s<512):Ab Tryz.prog 129 [iv s] (fun r=>r=Bx 0 1 3 nbO (mbr s)):=by
 refine acQ 19 Tryz.func129 rfl rfl fun _ _ _=> ?_
 (all_goals(conv=>whnf))
 refine A5 [.s 3 1 3] (fun i:Nat=>i≤9) (fun i=>9-i) (fun i=>⟨[(0,iv ((s/2^i:Nat):Int)),(3,Bx 3 1 3 nbO (mbI s i)),(4,iv i)],[],[(3,((mbI s i).length,1,3))]⟩) 0 (by omega) leQ ?_
 intro i hi
 have hml:=pZ s i
 have hd:=Nat.div_le_self s (2^i)
 have hp:s/2^i/2=s/2^(i+1):=by rw[Nat.div_div_eq_div_mul,Nat.pow_succ]
 by_cases h0:s/2^i=0
 ·have gi:decide (((s/2^i:Nat):Int)>0)=false:=by rw[h0];rfl
  have he:=pY ⟨s,hs⟩ ⟨i,by omega⟩ h0
  simp only at he
  rw[he]
  (repeat'((conv=>whnf);refine zN ?_));(all_goals(conv=>whnf))
  all_goals exact zE
 ·have gi:decide (((s/2^i:Nat):Int)>0)=true:=decide_eq_true (by have:=Nat.pos_of_ne_zero h0;exact_mod_cast this)
  have h9:=PU hs h0
  have hsu:=iA s i
  generalize mbI s i=a at hml hsu
  generalize hq:s/2^i=q at*
  by_cases h1:q%2=1
  ·rw[if_pos h1] at hsu
   have g1:(((q%2:Nat):Int)==1)=true:=by rw[h1];rfl
   (repeat'((conv=>whnf);first|refine zP ?_|refine A2 nbO i ?_|(with_reducible refine NInt.i64 ?_)|(with_reducible refine Bz ?_)|(with_reducible refine Bh ?_)|refine Au (by first|decide|omega|(simp only[Ag,List.length_nil];omega)) ?_));(all_goals(conv=>whnf))
   refine⟨i+1,by omega,by omega,?_⟩
   rw[hsu,←hp]
   exact leQ
  ·rw[if_neg h1] at hsu
   have g1:(((q%2:Nat):Int)==1)=false:=by rw[show q%2=0 by omega];rfl
   (repeat'((conv=>whnf);first|refine zP ?_|refine zN ?_|(with_reducible refine NInt.i64 ?_)|(with_reducible refine Bz ?_)|(with_reducible refine Bh ?_)|refine Au (by first|decide|omega|(simp only[Ag,List.length_nil];omega)) ?_));(all_goals(conv=>whnf))
   refine⟨i+1,by omega,by omega,?_⟩
   rw[hsu,←hp]
   exact leQ
section
variable {P:Program} {C:Cx} {o:Oper} {σ:AS} {t:Nat}
theorem CQ {z:Value} {k i:Nat} {v:Value} (h:(madeCells #[z] k)[i]?=some v):v=z:=by
 unfold madeCells at h
 rw[Array.getElem?_map,Option.map_eq_some_iff] at h
 obtain⟨j,-,rfl⟩:=h
 have:j%(#[z]:Array Value).size=0:=by show j%1=0;omega
 rw[this];rfl
theorem uU {st e:TypeId} {x y:Operand} {n by':Nat} {d:TypeDesc} {zv:Value} (ho:o.op= .makeSlice st x y) (hd:o.dst=some t) (ht:t<C.N) {κ:Nat} (hc:σ.clean κ=true) (hx:σ.eval x=some (.d (.v (.int .i64 (n:Int))))) (hy:σ.eval y=some (.d (.v (.int .i64 (n:Int)))))
 (hT:P.underlying st=some (.slice e)) (hE:TyOk P e d zv 1 by') (hz:zv.cells=#[zv]) (hn:n≤1000000) (hby:by'≤1000):Bp P C o σ ⟨(t,.pk κ 0 n 1)::σ.tm,(κ,List.replicate n (AV.d (.v zv)))::σ.bx,σ.tk⟩:=by
 rintro a w ⟨bm,gt,fp,hg⟩ K Q hK
 obtain⟨i,hi,hz0,hz1,hz2⟩:=hE.inf
 have h1:=(hg.eval hx).val
 have h2:=(hg.eval hy).val
 have hbytes:(i.bytes:Int)*(n:Int)≤281474976710656:=by
  have:i.bytes*n≤1000*1000000:=Nat.mul_le_mul (by omega) hn
  have h3:((i.bytes*n:Nat):Int)≤281474976710656:=by omega
  rwa[Int.natCast_mul] at h3
 have hr:=run_make (P:=P) w st e i zv hT hi hz0 .i64 .i64 n n (by omega) (Int.le_refl _) hbytes (by omega)
 rw[Int.toNat_natCast,hz1,Nat.mul_one,hz] at hr
 have hrun:(execOp a.eval o).run P w= .ok (.value (.slice (some ⟨w.heap.size,0,none⟩) n n)) (w.alloc (.cells (madeCells #[zv] n) e)):=by
  simp only[execOp,ho,h1,h2,Sem.run_bind,hr,Sem.run_pure,Result.andThen_ok]
 unfold Oper.wp
 rw[hrun,Oper.upon_value,hd]
 have hcl:∀m:Nat,AV.cleans κ (List.replicate m (AV.d (.v zv)))=true:=by
  intro m
  induction m with
  |zero=>rfl
  |succ m ih=>rw[List.replicate_succ];simp[AV.cleans,AV.clean,ih]
 have h3:=hg.newBox (k:=κ) hc (cs:=List.replicate n (AV.d (.v zv))) (cur:=madeCells #[zv] n) (e:=e) (hcl n) (by rw[List.length_replicate,size_madeCells];exact Nat.le_refl _) (fun i u v hu hv=>by
  have:=CQ hv
  subst this
  rw[List.getElem?_replicate] at hu
  split at hu
  ·cases hu;exact .d (.v _)
  ·cases hu)
 have h4:=h3.put (t:=t) (u:= .pk κ 0 n 1) ht (.pk (Nat.le_refl n) (by unfold maxLen;omega))
 rw[BM.set_same] at h4
 exact hK _ _ ⟨_,_,_,h4⟩
end
abbrev btA (l:List UInt8) (u:Nat):AV:= .agg [.d (Af false l),iv u]
theorem QQ {u:Nat} (h:u≤7):IntKind.u8.wrap (1*2^(min ((u:Nat):Int).toNat IntKind.u8.bits))=((2^u:Nat):Int):=by
 have:∀u:Fin 8,IntKind.u8.wrap (1*2^(min ((u.val:Nat):Int).toNat IntKind.u8.bits))=((2^u.val:Nat):Int):=by decide+kernel
 exact this ⟨u,by omega⟩
theorem QR {u:Nat} (h:u≤7):IntKind.u8.wrap (((2^u:Nat):Int)-1)=((2^u-1:Nat):Int):=by
 have:∀u:Fin 8,IntKind.u8.wrap (((2^u.val:Nat):Int)-1)=((2^u.val-1:Nat):Int):=by decide+kernel
 exact this ⟨u,by omega⟩
theorem QS (x:UInt8) {u:Nat} (h:u≤7):IntKind.u8.wrap ((BitVec.ofInt IntKind.u8.bits (x.toNat:Int)&&&BitVec.ofInt IntKind.u8.bits ((2^u-1:Nat):Int)).toNat:Int)=((x.toNat%2^u:Nat):Int):=by
 have:∀u:Fin 8,∀x:Fin 256,IntKind.u8.wrap ((BitVec.ofInt IntKind.u8.bits (x.val:Int)&&&BitVec.ofInt IntKind.u8.bits ((2^u.val-1:Nat):Int)).toNat:Int)=((x.val%2^u.val:Nat):Int):=by decide+kernel
 exact this ⟨u,by omega⟩ ⟨x.toNat,x.toNat_lt⟩
theorem Ly {l:List UInt8} {x:UInt8} {u:Nat} (hx:l[l.length-1]?=some x):Dq l u=(decide (u≤7)&&(x.toNat%2^u==0)):=by
 unfold Dq
 rw[List.getLast?_eq_getElem?,hx]
theorem T5 {l:List UInt8} (h:l≠[]):∃x,l[l.length-1]?=some x:=⟨_,Am (by have:=List.length_pos_iff.2 h;omega)⟩
theorem iB {l:List UInt8} {u:Nat} (h:Dq l u=true):u≤7∧u≤8*l.length:=by
 by_cases h0:l=[]
 ·subst h0
  have:(u==0)=true:=h
  rw[beq_iff_eq] at this
  omega
 ·obtain⟨x,hx⟩:=T5 h0
  rw[Ly hx,At,decide_eq_true_eq] at h
  have:=List.length_pos_iff.2 h0
  omega
theorem Zf (l:List UInt8) (u:Nat) (hl:l.length≤1000000) (hu:u≤255):Ab Tryz.prog 141 [btA l u] (fun r=>r=bv (Dq l u)):=by
 by_cases h0:l=[]
 ·subst h0
  show Ab _ _ _ (fun r=>r=bv (u==0))
  cases hz:(u==0)
  ·have g:((u:Int)==0)=false:=by rw[beq_eq_false_iff_ne] at hz⊢;omega
   refine acQ 34 Tryz.func141 rfl rfl fun _ _ _=> ?_
   (repeat'((conv=>whnf);refine Ac ?_));(all_goals(conv=>whnf))
   all_goals(refine A7 ?_;(repeat'(first|refine And.intro ?_ ?_|exact rfl));(all_goals(conv=>whnf)))
   all_goals exact g
  ·have g:((u:Int)==0)=true:=by rw[beq_iff_eq] at hz⊢;omega
   refine acQ 34 Tryz.func141 rfl rfl fun _ _ _=> ?_
   (repeat'((conv=>whnf);refine Ac ?_));(all_goals(conv=>whnf))
   all_goals(refine A7 ?_;(repeat'(first|refine And.intro ?_ ?_|exact rfl));(all_goals(conv=>whnf)))
   all_goals exact g
 obtain⟨x,hx⟩:=T5 h0
 have hpos:=List.length_pos_iff.2 h0
 have g0:((l.length:Int)==0)=false:=by rw[beq_eq_false_iff_ne];omega
 have g1:decide ((u:Int)≥0)=true:=decide_eq_true (by omega)
 rw[Ly hx]
 by_cases h7:u≤7
 ·have g7:decide ((u:Int)≤7)=true:=decide_eq_true (by omega)
  rw[decide_eq_true h7,Bool.true_and]
  have a1:=QQ h7
  have a2:=QR h7
  have a3:=QS x h7
  have hk:∀q:Nat,((q:Int)==0)=(q==0):=fun q=>by rw[Bool.eq_iff_iff];simp
  have hq:=hk (x.toNat%2^u)
  refine acQ 34 Tryz.func141 rfl rfl fun _ _ _=> ?_
  (repeat'((conv=>whnf);first|refine zP ?_|refine zN ?_|refine NIdx.bytes hx ?_|refine NInt.as (((l.length-1:Nat):Int)) ((by rw[IntWalk.i64_in _ (by omega)];omega)) ?_|refine NInt.as (((2^u:Nat):Int)) (a1) ?_|refine NInt.as (((2^u-1:Nat):Int)) (a2) ?_|refine NInt.as (((x.toNat%2^u:Nat):Int)) (a3) ?_|refine zF ?_|refine Au (by first|decide|omega|(simp only[Ag,List.length_nil];omega)) ?_));(all_goals(conv=>whnf))
  all_goals(refine A7 ?_;(repeat'(first|refine And.intro ?_ ?_|exact rfl));(all_goals(conv=>whnf)))
  all_goals exact hq
 ·have g7:decide ((u:Int)≤7)=false:=decide_eq_false (by omega)
  rw[decide_eq_false h7,Bool.false_and]
  refine acQ 34 Tryz.func141 rfl rfl fun _ _ _=> ?_
  (repeat'((conv=>whnf);first|refine zP ?_|refine zN ?_|refine zF ?_|exact zE))
def dcB:List UInt8→Option (List UInt8×Nat)
 |[]=>none
 |u::l=>if Dq l u.toNat=true then some (l,u.toNat) else none
def dcA (t:Bool):Option (List UInt8×Nat)→AV
 |none=> .tup [.agg [A4,iv 0],iv 6]
 |some p=> .tup [.agg [.d (Af t p.1),iv p.2],iv 0]
theorem uV (c:List UInt8) (hc:c.length≤1000000):Ab Tryz.prog 101 [.d (Af false c)] (fun r=>r=dcA true (dcB c)):=by
 cases c with
 |nil=>
  refine acQ 22 Tryz.func101 rfl rfl fun _ _ _=> ?_
  (repeat'((conv=>whnf);refine Ac ?_));(all_goals(conv=>whnf))
  all_goals exact zE
 |cons u l=>
  simp only[Ag] at hc
  have h0:(u::l)[0]?=some u:=rfl
  have g0:((((u::l).length:Nat):Int)==0)=false:=by rw[beq_eq_false_iff_ne];simp only[Ag];omega
  have hC:=Kz l (by omega)
  have hu:=u.toNat_lt
  have hV:=Zf l u.toNat (by omega) (by omega)
  show Ab _ _ _ (fun r=>r=dcA true (if Dq l u.toNat=true then some (l,u.toNat) else none))
  cases hv:Dq l u.toNat
  all_goals
   rw[hv] at hV
   refine acQ 22 Tryz.func101 rfl rfl fun _ _ _=> ?_
   (repeat'((conv=>whnf);first|refine zN ?_|refine Ac ?_|refine Ae ?_|refine NIdx.bytes h0 ?_|refine F9 (1) ?_|refine Aa hC gvQ ?_|refine Aa hV gvQ ?_|(with_reducible refine NInt.i64 ?_)|refine zF ?_|exact zE))
theorem Pu (l:List UInt8) (u:Nat) (hl:l.length≤1000000) (hu:u≤255):Ab Tryz.prog 159 [btA l u] (fun r=>r=bv (Dq l u)):=by
 have g1:decide ((u:Int)<0)=false:=decide_eq_false (by omega)
 by_cases h7:u≤7
 ·have g7:decide ((u:Int)>7)=false:=decide_eq_false (by omega)
  by_cases h0:l=[]
  ·subst h0
   show Ab _ _ _ (fun r=>r=bv (u==0))
   cases hz:(u==0)
   ·have g:decide ((u:Int)>0)=true:=by rw[beq_eq_false_iff_ne] at hz;exact decide_eq_true (by omega)
    refine acQ 50 Tryz.func159 rfl rfl fun _ _ _=> ?_
    (repeat'((conv=>whnf);first|refine zP ?_|refine zN ?_|refine Ac ?_|refine Ae ?_|exact zE))
   ·rw[beq_iff_eq] at hz
    subst hz
    refine acQ 50 Tryz.func159 rfl rfl fun _ _ _=> ?_
    (repeat'((conv=>whnf);first|refine zN ?_|refine Ac ?_|refine Ae ?_));(all_goals(conv=>whnf))
    refine Ax (fun i:Nat=>i=0) (fun i=>i) (fun i=>⟨[(1,.ptr 1 0),(3,iv 1),(4,iv 0)],[(1,[.d (Af false []),iv 0])],[]⟩) 0 rfl leQ ?_
    rintro i rfl
    (repeat'((conv=>whnf);first|refine Ac ?_|refine Ae ?_|exact zE))
  obtain⟨x,hx⟩:=T5 h0
  have hpos:=List.length_pos_iff.2 h0
  have g0:((l.length:Int)==0)=false:=by rw[beq_eq_false_iff_ne];omega
  rw[Ly hx,decide_eq_true h7,Bool.true_and]
  have hk:∀q:Nat,((q:Int)==0)=(q==0):=fun q=>by rw[Bool.eq_iff_iff];simp
  have hq:=hk (x.toNat%2^u)
  have hp7:∀i,i≤7→2^i≤128:=fun i hi=>Nat.le_trans (Nat.pow_le_pow_right (by omega) hi) (by decide)
  have hpp:∀i:Nat,0<2^i:=fun i=>Nat.pow_pos (by omega)
  refine acQ 50 Tryz.func159 rfl rfl fun _ _ _=> ?_
  (repeat'((conv=>whnf);first|refine zN ?_|refine Ae ?_));(all_goals(conv=>whnf))
  refine Ax (fun i:Nat=>i≤u) (fun i=>u-i) (fun i=>⟨[(1,.ptr 1 0),(3,iv ((2^i:Nat):Int)),(4,iv i)],[(1,[.d (Af false l),iv u])],[]⟩) 0 (by omega) leQ ?_
  intro i hi
  have h3:=hp7 i (by omega)
  by_cases hik:i<u
  ·have gi:decide ((i:Int)<(u:Int))=true:=decide_eq_true (by omega)
   have hs:2^(i+1)=2^i*2:=Nat.pow_succ ..
   generalize 2^i=q at h3 hs
   (repeat'((conv=>whnf);first|refine zP ?_|refine NInt.as (((q*2:Nat):Int)) ((by rw[IntWalk.i64_in _ (by omega)];omega)) ?_|(with_reducible refine NInt.i64 ?_)));(all_goals(conv=>whnf))
   refine⟨i+1,by omega,by omega,?_⟩
   rw[hs]
   exact leQ
  ·have gi:decide ((i:Int)<(u:Int))=false:=decide_eq_false (by omega)
   obtain rfl:i=u:=by omega
   have h4:=hpp i
   have hm:((x.toNat:Int)).tmod ((2^i:Nat):Int)=((x.toNat%2^i:Nat):Int):=by rw[Int.tmod_eq_emod_of_nonneg (by omega)];rfl
   generalize 2^i=q at h3 h4 hm hq
   have hxl:=x.toNat_lt
   have gq:((q:Int)==0)=false:=by rw[beq_eq_false_iff_ne];omega
   (repeat'((conv=>whnf);first|refine zN ?_|refine Ae ?_|refine NIdx.bytes hx ?_|refine NInt.as (((l.length-1:Nat):Int)) ((by rw[IntWalk.i64_in _ (by omega)];omega)) ?_|refine NInt.as (((x.toNat%q:Nat):Int)) (hm) ?_|(with_reducible refine NInt.i64 ?_)|refine Au (by first|decide|omega|(simp only[Ag,List.length_nil];omega)) ?_));(all_goals(conv=>whnf))
   all_goals(refine A7 ?_;(repeat'(first|refine And.intro ?_ ?_|exact rfl));(all_goals(conv=>whnf)))
   all_goals exact hq
 ·have g7:decide ((u:Int)>7)=true:=decide_eq_true (by omega)
  have hf:Dq l u=false:=by
   by_cases h0:l=[]
   ·subst h0
    show(u==0)=false
    rw[beq_eq_false_iff_ne];omega
   ·obtain⟨x,hx⟩:=T5 h0
    rw[Ly hx,decide_eq_false h7];rfl
  rw[hf]
  refine acQ 50 Tryz.func159 rfl rfl fun _ _ _=> ?_
  (repeat'((conv=>whnf);first|refine zP ?_|refine zN ?_|refine Ac ?_|refine Ae ?_|exact zE))
theorem mC (c:List UInt8) (hc:c.length≤1000000):Ab Tryz.prog 117 [.d (Af false c)] (fun r=>r=dcA false (dcB c)):=by
 cases c with
 |nil=>
  refine acQ 21 Tryz.func117 rfl rfl fun _ _ _=> ?_
  (repeat'((conv=>whnf);refine Ac ?_));(all_goals(conv=>whnf))
  all_goals exact zE
 |cons u l=>
  simp only[Ag] at hc
  have h0:(u::l)[0]?=some u:=rfl
  have g0:((((u::l).length:Nat):Int)==0)=false:=by rw[beq_eq_false_iff_ne];simp only[Ag];omega
  have hu:=u.toNat_lt
  have hV:=Pu l u.toNat (by omega) (by omega)
  show Ab _ _ _ (fun r=>r=dcA false (if Dq l u.toNat=true then some (l,u.toNat) else none))
  cases hv:Dq l u.toNat
  all_goals
   rw[hv] at hV
   refine acQ 21 Tryz.func117 rfl rfl fun _ _ _=> ?_
   (repeat'((conv=>whnf);first|refine zN ?_|refine Ac ?_|refine Ae ?_|refine NIdx.bytes h0 ?_|refine F9 (1) ?_|refine Aa hV gvQ ?_|(with_reducible refine NInt.i64 ?_)|refine zF ?_|exact zE))
def Ki (l:List UInt8) (u:Nat):Nat:=if Dq l u=true then 8*l.length-u else 0
theorem Sa (l:List UInt8) (u:Nat) (hl:l.length≤1000000) (hu:u≤255):Ab Tryz.prog 102 [btA l u] (fun r=>r=iv (Ki l u)):=by
 have hV:=Zf l u hl hu
 unfold Ki
 cases hv:Dq l u
 ·rw[hv] at hV
  refine acQ 13 Tryz.func102 rfl rfl fun _ _ _=> ?_
  (repeat'((conv=>whnf);first|refine Ac ?_|refine Aa hV gvQ ?_|exact zE))
 ·rw[hv] at hV
  obtain⟨h1,h2⟩:=iB hv
  rw[if_pos rfl]
  refine acQ 13 Tryz.func102 rfl rfl fun _ _ _=> ?_
  (repeat'((conv=>whnf);first|refine Ae ?_|refine Aa hV gvQ ?_|refine NInt.as (((8*l.length:Nat):Int)) ((by rw[IntWalk.i64_in _ (by omega)];omega)) ?_|refine NInt.as (((8*l.length-u:Nat):Int)) ((by rw[IntWalk.i64_in _ (by omega)];omega)) ?_|exact zE))
theorem mD (l:List UInt8) (u:Nat) (hl:l.length≤1000000) (hu:u≤255):Ab Tryz.prog 160 [btA l u] (fun r=>r=iv (Ki l u)):=by
 have hV:=Pu l u hl hu
 unfold Ki
 cases hv:Dq l u
 ·rw[hv] at hV
  refine acQ 13 Tryz.func160 rfl rfl fun _ _ _=> ?_
  (repeat'((conv=>whnf);first|refine Ac ?_|refine Aa hV gvQ ?_|exact zE))
 ·rw[hv] at hV
  obtain⟨h1,h2⟩:=iB hv
  rw[if_pos rfl]
  refine acQ 13 Tryz.func160 rfl rfl fun _ _ _=> ?_
  (repeat'((conv=>whnf);first|refine Ae ?_|refine Aa hV gvQ ?_|refine NInt.as (((8*l.length:Nat):Int)) ((by rw[IntWalk.i64_in _ (by omega)];omega)) ?_|refine NInt.as (((8*l.length-u:Nat):Int)) ((by rw[IntWalk.i64_in _ (by omega)];omega)) ?_|exact zE))
theorem QT (x:UInt8) {e:Nat} (h:e≤7):(x.toNat:Int).fdiv (2^(min ((e:Nat):Int).toNat IntKind.u8.bits))=((x.toNat/2^e:Nat):Int):=by
 have:∀e:Fin 8,∀x:Fin 256,(x.val:Int).fdiv (2^(min ((e.val:Nat):Int).toNat IntKind.u8.bits))=((x.val/2^e.val:Nat):Int):=by decide+kernel
 exact this ⟨e,by omega⟩ ⟨x.toNat,x.toNat_lt⟩
theorem PV {m:Nat} (h:m<256):IntKind.u8.wrap ((BitVec.ofInt IntKind.u8.bits (m:Int)&&&BitVec.ofInt IntKind.u8.bits 1).toNat:Int)=((m%2:Nat):Int):=by
 have:∀m:Fin 256,IntKind.u8.wrap ((BitVec.ofInt IntKind.u8.bits (m.val:Int)&&&BitVec.ofInt IntKind.u8.bits 1).toNat:Int)=((m.val%2:Nat):Int):=by decide+kernel
 exact this ⟨m,h⟩
theorem qA {l:List UInt8} {i:Nat} {x:UInt8} (hx:l[i/8]?=some x):Gp l i=(x.toNat/2^(7-i%8)%2==1):=by
 unfold Gp
 rw[List.getD_eq_getElem?_getD,hx,Option.getD_some,Nat.shiftRight_eq_div_pow]
def atB (l:List UInt8) (u i:Nat):Bool:=decide (i<Ki l u)&&Gp l i
theorem qB {l:List UInt8} {u i:Nat} (h:i<Ki l u):∃x,l[i/8]?=some x:=by
 have:i/8<l.length:=by
  unfold Ki at h
  split at h<;>omega
 exact⟨_,Am this⟩
theorem CR (l:List UInt8) (u i:Nat) (hl:l.length≤1000000) (hu:u≤255) (hi:i≤100000000):Ab Tryz.prog 104 [btA l u,iv i] (fun r=>r=bv (atB l u i)):=by
 have hL:=Sa l u hl hu
 have g0:decide ((i:Int)≥0)=true:=decide_eq_true (by omega)
 unfold atB
 by_cases h:i<Ki l u
 ·obtain⟨x,hx⟩:=qB h
  rw[decide_eq_true h,Bool.true_and,qA hx]
  have gl:decide ((i:Int)<(Ki l u:Int))=true:=decide_eq_true (by omega)
  generalize Ki l u=n at hL gl
  have hxl:=x.toNat_lt
  have a1:=QT x (e:=7-i%8) (by omega)
  have hd:=Nat.div_le_self x.toNat (2^(7-i%8))
  have a2:=PV (m:=x.toNat/2^(7-i%8)) (by omega)
  generalize hq:x.toNat/2^(7-i%8)=q at a1 a2 hd
  have hk:(((q%2:Nat):Int) !=0)=(q%2==1):=by
   rcases(by omega:q%2=0∨q%2=1) with h|h<;>rw[h]<;>rfl
  refine acQ 27 Tryz.func104 rfl rfl fun _ _ _=> ?_
  (repeat'((conv=>whnf);first|refine zP ?_|refine Ac ?_|refine Aa hL gvQ ?_|refine NIdx.bytes hx ?_|refine NInt.as (((7-i%8:Nat):Int)) ((by rw[IntWalk.i64_in _ (by omega)];omega)) ?_|refine NInt.as ((q:Int)) (a1) ?_|refine NInt.as (((q%2:Nat):Int)) (a2) ?_|(with_reducible refine Bz ?_)|(with_reducible refine Bh ?_)|refine Au (by first|decide|omega|(simp only[Ag,List.length_nil];omega)) ?_));(all_goals(conv=>whnf))
  all_goals(refine A7 ?_;(repeat'(first|refine And.intro ?_ ?_|exact rfl));(all_goals(conv=>whnf)))
  all_goals exact hk
 ·rw[decide_eq_false h,Bool.false_and]
  have gl:decide ((i:Int)<(Ki l u:Int))=false:=decide_eq_false (by omega)
  generalize Ki l u=n at hL gl
  refine acQ 27 Tryz.func104 rfl rfl fun _ _ _=> ?_
  (repeat'((conv=>whnf);first|refine zP ?_|refine zN ?_|refine Ac ?_|refine Ae ?_|refine Aa hL gvQ ?_|exact zE))
theorem uW (l:List UInt8) (u i:Nat) (hl:l.length≤1000000) (hu:u≤255) (hi:i≤100000000):Ab Tryz.prog 118 [btA l u,iv i] (fun r=>r=bv (atB l u i)):=by
 have hL:=mD l u hl hu
 have g0:decide ((i:Int)<0)=false:=decide_eq_false (by omega)
 unfold atB
 by_cases h:i<Ki l u
 ·obtain⟨x,hx⟩:=qB h
  rw[decide_eq_true h,Bool.true_and,qA hx]
  have gl:decide ((i:Int)≥(Ki l u:Int))=false:=decide_eq_false (by omega)
  generalize Ki l u=n at hL gl
  have hxl:=x.toNat_lt
  refine acQ 33 Tryz.func118 rfl rfl fun _ _ _=> ?_
  (repeat'((conv=>whnf);first|refine zN ?_|refine Ae ?_|refine Aa hL gvQ ?_|refine NIdx.bytes hx ?_|(with_reducible refine NInt.i64 ?_)|(with_reducible refine Bz ?_)|refine Au (by first|decide|omega|(simp only[Ag,List.length_nil];omega)) ?_));(all_goals(conv=>whnf))
  refine Ax (fun j:Nat=>j≤7-i%8) (fun j=>7-j) (fun j=>⟨[(1,iv i),(5,iv ((x.toNat/2^j:Nat):Int)),(6,iv ((7-j:Nat):Int))],[],[]⟩) 0 (by omega) leQ ?_
  intro j hj
  have hd:=Nat.div_le_self x.toNat (2^j)
  by_cases hjk:j<7-i%8
  ·have gi:decide (((7-j:Nat):Int)>((i%8:Nat):Int))=true:=decide_eq_true (by omega)
   have hs:x.toNat/2^(j+1)=x.toNat/2^j/2:=by rw[Nat.div_div_eq_div_mul,Nat.pow_succ]
   generalize x.toNat/2^j=q at hd hs
   (repeat'((conv=>whnf);first|refine zP ?_|refine NInt.as (((7-(j+1):Nat):Int)) ((by rw[IntWalk.i64_in _ (by omega)];omega)) ?_|(with_reducible refine Bz ?_)|(with_reducible refine Bh ?_)|refine Au (by first|decide|omega|(simp only[Ag,List.length_nil];omega)) ?_));(all_goals(conv=>whnf))
   refine⟨j+1,by omega,by omega,?_⟩
   rw[hs]
   exact leQ
  ·have gi:decide (((7-j:Nat):Int)>((i%8:Nat):Int))=false:=decide_eq_false (by omega)
   obtain rfl:j=7-i%8:=by omega
   generalize x.toNat/2^(7-i%8)=q at hd
   have hk:(((q%2:Nat):Int)==1)=(q%2==1):=by
    rcases(by omega:q%2=0∨q%2=1) with h|h<;>rw[h]<;>rfl
   (repeat'((conv=>whnf);first|refine zN ?_|(with_reducible refine Bh ?_)|refine Au (by first|decide|omega|(simp only[Ag,List.length_nil];omega)) ?_));(all_goals(conv=>whnf))
   all_goals(refine A7 ?_;(repeat'(first|refine And.intro ?_ ?_|exact rfl));(all_goals(conv=>whnf)))
   all_goals exact hk
 ·rw[decide_eq_false h,Bool.false_and]
  have gl:decide ((i:Int)≥(Ki l u:Int))=true:=decide_eq_true (by omega)
  generalize Ki l u=n at hL gl
  refine acQ 33 Tryz.func118 rfl rfl fun _ _ _=> ?_
  (repeat'((conv=>whnf);first|refine zP ?_|refine zN ?_|refine Ae ?_|refine Aa hL gvQ ?_|exact zE))
theorem Zg {α:Type} {tm:TM} {bx:BX} {tk:TK} {R:KS→KS} (inv:α→Prop) (ms:α→Nat) (st:α→AS) (a0:α) (h0:inv a0) (w0:Ent ⟨tm,bx,tk⟩ (st a0))
 (round:∀a,inv a→R (fun tm' bx' tk'=>∃a',inv a'∧ms a'<ms a∧Ent ⟨tm',bx',tk'⟩ (st a')) (st a).tm (st a).bx (st a).tk):NLoop tm bx tk R:=
 ⟨α,inv,ms,st,fun a b=>Ent a b,a0,fun _ _ h=>h,h0,w0,round⟩
theorem Ent.step {σ σ' σ'':AS} (h:Ent σ σ') (h':Ent σ' σ''):Ent σ σ'':=fun C a w hG=>h' C a w (h C a w hG)
theorem uX (n:Nat):List.replicate n (AV.d (.v (.int .u8 0)))=(Ak (List.replicate n (0:UInt8))).map AV.d:=by
 induction n with
 |zero=>rfl
 |succ n ih=>rw[List.replicate_succ,List.replicate_succ,ih];rfl
section
variable {C:Cx} {o:Oper} {σ:AS} {t:Nat}
theorem W5 {x y:Operand} {n:Nat} (ho:o.op= .makeSlice 22 x y) (hd:o.dst=some t) (ht:t<C.N) (κ:Nat) (hc:σ.clean κ=true) (hx:σ.eval x=some (iv n)) (hy:σ.eval y=some (iv n)) (hn:n≤1000000):
 Bp Tryz.prog C o σ ⟨(t,.pk κ 0 n 1)::σ.tm,(κ,(Ak (List.replicate n (0:UInt8))).map AV.d)::σ.bx,σ.tk⟩:=by
 rw[←uX]
 exact uU ho hd ht hc hx hy Tryz.underlying22 tyB rfl hn (by omega)
end
def orU (x:UInt8) (k:Nat):UInt8:=UInt8.ofNat (x.toNat|||128/2^k)
def lst (s:Nat):Nat:=(mbr s).getLast?.getD 0
def eb0 (s:Nat):List UInt8:=UInt8.ofNat (7-lst s%8)::List.replicate (1+lst s/8) 0
def ebS (b:List UInt8) (m:Nat):List UInt8:=b.set (1+m/8) (orU (b.getD (1+m/8) 0) (m%8))
def ebI (s j:Nat):List UInt8:=((mbr s).take j).foldl ebS (eb0 s)
theorem NV:∀s:Fin 512,s.val≠0→ebI s.val (mbr s.val).length=Dd s.val:=by decide+kernel
theorem qC:∀s:Fin 512,s.val≠0→(mbr s.val)[(mbr s.val).length-1]?=some (lst s.val)∧0<(mbr s.val).length∧(mbr s.val).length≤9∧lst s.val<9∧((mbr s.val).all fun m=>decide (m≤lst s.val))=true:=by decide+kernel
theorem IN (b:List UInt8) (m:Nat):(ebS b m).length=b.length:=List.length_set
theorem IP (s j:Nat):(ebI s j).length=2+lst s/8:=by
 have:∀(l:List Nat) (b:List UInt8),(l.foldl ebS b).length=b.length:=by
  intro l
  induction l with
  |nil=>intro b;rfl
  |cons m r ih=>intro b;rw[List.foldl_cons,ih,IN]
 unfold ebI
 rw[this]
 unfold eb0
 rw[Ag,List.length_replicate];omega
theorem CS {s j m:Nat} (h:(mbr s)[j]?=some m):ebI s (j+1)=ebS (ebI s j) m:=by
 obtain⟨hlt,he⟩:=Aw.1 h
 unfold ebI
 rw[List.take_succ_eq_append_getElem hlt,he,List.foldl_append];rfl
theorem NW {k:Nat} (h:k≤7):(128:Int).fdiv (2^(min ((k:Nat):Int).toNat IntKind.u8.bits))=((128/2^k:Nat):Int):=by
 have:∀k:Fin 8,(128:Int).fdiv (2^(min ((k.val:Nat):Int).toNat IntKind.u8.bits))=((128/2^k.val:Nat):Int):=by decide+kernel
 exact this ⟨k,by omega⟩
theorem orB (x:UInt8) {k:Nat} (h:k≤7):IntKind.u8.wrap ((BitVec.ofInt IntKind.u8.bits (x.toNat:Int)|||BitVec.ofInt IntKind.u8.bits ((128/2^k:Nat):Int)).toNat:Int)=((orU x k).toNat:Int):=by
 have:∀k:Fin 8,∀x:Fin 256,IntKind.u8.wrap ((BitVec.ofInt IntKind.u8.bits (x.val:Int)|||BitVec.ofInt IntKind.u8.bits ((128/2^k.val:Nat):Int)).toNat:Int)=((UInt8.ofNat (x.val|||128/2^k.val)).toNat:Int):=by decide+kernel
 exact this ⟨k,by omega⟩ ⟨x.toNat,x.toNat_lt⟩
theorem W6 {l:List UInt8} {i:Nat} {b:UInt8} (h:l[i]?=some b):((Ak l).map AV.d)[0+i*1]?=some (cv b.toNat):=by
 rw[Nat.zero_add,Nat.mul_one,List.getElem?_map,Gi,h];rfl
theorem Zi (s:Nat) (hs:s<512):Ab Tryz.prog 48 [iv s,iv 9] (fun r=>r= .tup [.d (Af false (Dd s)),iv 0]):=by
 have hM:=uT s hs
 have g0:decide ((s:Int)<0)=false:=decide_eq_false (by omega)
 have hsh:(s:Int).fdiv (2^(min (Int.toNat 9) IntKind.i64.bits))=((s/2^9:Nat):Int):=NU (i:=9) (by omega)
 have gz:(((s/2^9:Nat):Int) !=0)=false:=by rw[show s/2^9=0 by omega];rfl
 by_cases h0:s=0
 ·subst h0
  refine acQ 68 Tryz.func48 rfl rfl fun _ _ _=> ?_
  (repeat'((conv=>whnf);first|refine zN ?_|refine Ac ?_|refine Ae ?_|refine NInt.as (((0/2^9:Nat):Int)) (hsh) ?_|refine Aa hM rfl ?_|refine Au (by first|decide|omega|(simp only[Ag,List.length_nil];omega)) ?_|exact zE))
 have he:=NV ⟨s,hs⟩ h0
 obtain⟨l1,l2,l3,l4,l5⟩:=qC ⟨s,hs⟩ h0
 simp only at he l1 l2 l3 l4 l5
 have hel:=IP s
 have hsu:=fun j m=>CS (s:=s) (j:=j) (m:=m)
 have h00:ebI s 0=UInt8.ofNat (7-lst s%8)::List.replicate (1+lst s/8) 0:=rfl
 have gl:(((mbr s).length:Int)==0)=false:=by rw[beq_eq_false_iff_ne];omega
 rw[←he]
 generalize ebI s=eb at he hel hsu h00⊢
 generalize mbr s=M at hM gl l1 l2 l3 l5 hsu⊢
 clear he
 generalize lst s=q at l1 l4 l5 hel h00
 refine acX 68 [] Tryz.func48 rfl rfl fun _ _ _=> ?_
 have hb0:0<(List.replicate (1+q/8+1) (0:UInt8)).length:=by rw[List.length_replicate];omega
 have hn0:0<1+q/8+1:=by omega
 have hcv:IntKind.u8.wrap ((7-q%8:Nat):Int)=((UInt8.ofNat (7-q%8)).toNat:Int):=Z6 _
 (repeat'((conv=>whnf);first|refine zN ?_|refine Ae ?_|refine NInt.as (((s/2^9:Nat):Int)) (hsh) ?_|refine Aa hM rfl ?_|refine NIdx.tab (fun _=>rfl) l1 ?_|refine NInt.as (((M.length-1:Nat):Int)) ((by rw[IntWalk.i64_in _ (by omega)];omega)) ?_|refine NInt.as (((1+q/8+1:Nat):Int)) ((by rw[IntWalk.i64_in _ (by omega)];omega)) ?_|refine NInt.as (((7-q%8:Nat):Int)) ((by rw[IntWalk.i64_in _ (by omega)];omega)) ?_|(refine Aj (W5 rfl rfl (ltN rfl) 2000 rfl rfl rfl (by omega)) ?_)|refine Aj (X7 rfl rfl (ltN rfl) Tryz.underlying3 Tryz.underlying5 rfl hcv) ?_|refine Aj (Hr 0 rfl rfl (ltN rfl) Tryz.underlying22 tyB rfl rfl rfl hn0) ?_|refine Aj (Fu rfl rfl rfl rfl rfl hb0) ?_|(with_reducible refine Bz ?_)|(with_reducible refine Bh ?_)|refine Au (by first|decide|omega|(simp only[Ag,List.length_nil];omega)) ?_));(all_goals(conv=>whnf))
 refine Zg (α:=Option Nat) (fun a=>∀j,a=some j→j<M.length) (fun a=>match a with|some j=>M.length-j|none=>0) (fun a=>match a with|some j=>⟨[(8,.pk 2000 0 (1+q/8+1) 1),(49,.d (Fb true 1 nbO M)),(50,iv M.length),(51,iv j)],[(2000,(Ak (eb j)).map AV.d)],[]⟩|none=>⟨[(8,.d (Af false (eb M.length))),(49,.d (Fb true 1 nbO M)),(50,iv M.length),(51,iv M.length)],[],[]⟩) (some 0) (fun j hj=>by cases hj;omega) (J9 ?_) ?_
 ·show wkW _ _ _ ⟨[(8,.pk 2000 0 (1+q/8+1) 1),(49,.d (Fb true 1 nbO M)),(50,iv M.length),(51,iv (0:Nat))],[(2000,(Ak (eb 0)).map AV.d)],[]⟩
  rw[h00]
  ((repeat'(first|exact trivial|exact Be _|refine And.intro ?_ ?_|exact rfl));(all_goals(conv=>whnf)))
  all_goals exact D2 _
 rintro(_|j) hj
 ·have gi:decide ((M.length:Int)<M.length)=false:=decide_eq_false (by omega)
  show _
  (repeat'((conv=>whnf);refine zN ?_));(all_goals(conv=>whnf))
  all_goals exact zE
 ·have hjl:=hj j rfl
  have gi:decide ((j:Int)<M.length)=true:=decide_eq_true (by omega)
  obtain⟨m,hm⟩:∃m,M[j]?=some m:=⟨_,Am hjl⟩
  have hmq:m≤q:=of_decide_eq_true (List.all_eq_true.1 l5 m (A8 hm))
  have hlen:=hel j
  have hmi:1+m/8<1+q/8+1:=by omega
  have hml:1+m/8<(eb j).length:=by omega
  obtain⟨x,hx⟩:∃x,(eb j)[1+m/8]?=some x:=⟨_,Am hml⟩
  have hs':(eb j).set (1+m/8) (orU x (m%8))=eb (j+1):=by
   rw[hsu j m hm]
   unfold ebS
   rw[List.getD_eq_getElem?_getD,hx,Option.getD_some]
  have a1:=NW (k:=m%8) (by omega)
  have a2:=orB x (k:=m%8) (by omega)
  have hcell:=W6 hx
  have hlen':=hel (j+1)
  (repeat'((conv=>whnf);first|refine zP ?_|refine NIdx.tab (fun _=>rfl) hm ?_|refine NInt.as (((1+m/8:Nat):Int)) ((by rw[IntWalk.i64_in _ (by omega)];omega)) ?_|refine NInt.as (((128/2^(m%8):Nat):Int)) (a1) ?_|refine NInt.as (((orU x (m%8)).toNat:Int)) (a2) ?_|refine NLa.mk ⟨_,dW (1+m/8) rfl rfl (ltN rfl) Tryz.underlying22 tyB rfl rfl rfl hmi,?_⟩|refine NLa.mk ⟨_,Z3 rfl rfl (ltN rfl) rfl rfl tyB rfl hcell,?_⟩|refine Aj (Fu rfl rfl rfl rfl rfl hml) ?_|(with_reducible refine NInt.i64 ?_)|(with_reducible refine Bz ?_)|(with_reducible refine Bh ?_)|refine zF ?_|refine Au (by first|decide|omega|(simp only[Ag,List.length_nil];omega)) ?_));(all_goals(conv=>whnf))
  rw[hs']
  by_cases hl:j+1<M.length
  ·refine⟨some (j+1),fun _ h=>by cases h;exact hl,by show M.length-(j+1)<M.length-j;omega,J9 ?_⟩
   show wkW _ _ _ ⟨[(8,.pk 2000 0 (1+q/8+1) 1),(49,.d (Fb true 1 nbO M)),(50,iv M.length),(51,iv (j+1:Nat))],[(2000,(Ak (eb (j+1))).map AV.d)],[]⟩
   ((repeat'(first|exact trivial|exact Be _|refine And.intro ?_ ?_));(all_goals(conv=>whnf)))
   all_goals exact D2 _
  ·have hle:j+1=M.length:=by omega
   have hlen2:=hel M.length
   rw[hle]
   refine⟨none,(fun _ h=>by cases h),by show 0<M.length-j;omega,Ent.step (dY (k:=2000) (n:=1+q/8+1) (sz:=1) [8] rfl (Gk (eb M.length)) (fun s hs=>by rw[List.mem_singleton.1 hs];rfl) (by rw[B7,hlen2];omega) (Gj _)) (J9 ?_)⟩
   rw[Nat.mul_one,List.take_of_length_le (by rw[B7,hlen2];omega)]
   show wkW _ _ _ ⟨[(8,.d (Af false (eb M.length))),(49,.d (Fb true 1 nbO M)),(50,iv M.length),(51,iv M.length)],[],[]⟩
   have hbl:1+q/8+1=(eb M.length).length:=by rw[hlen2];omega
   rw[hbl]
   exact leQ
theorem F5 {p:Prop} (h:p:=by first|rfl|(simp only[AV.gives,AV.ren,AV.give,D.un,D.uns,An,Ao,List.nil_append,List.append_nil,List.cons_append,List.drop];first|done|rfl)):p:=h
theorem CT (l:List UInt8) (u i:Nat) (hl:l.length≤1000000) (hu:u≤255) (hi:i≤100000000):Ab Tryz.prog 103 [iv i,.d (.cp false [Af false l,.v (.int .i64 (u:Int))])] (fun r=>r=bv (atB l u i)):=by
 have hA:=CR l u i hl hu hi
 refine acQ 7 Tryz.func103 rfl rfl fun _ _ _=> ?_
 (repeat'((conv=>whnf);refine Aa hA F5 ?_));(all_goals(conv=>whnf))
 all_goals exact zE
theorem mE (f:Nat→Bool):∀i,stN f i<2^i
 |0=>by simp[stN]
 |i+1=>by
  have ih:=mE f i
  have h2:2^i≤2^(i+1):=Nat.pow_le_pow_right (by omega) (by omega)
  unfold stN
  split
  ·refine Nat.or_lt_two_pow (by omega) ?_
   rw[Nat.one_shiftLeft]
   exact Nat.pow_lt_pow_right (by omega) (by omega)
  ·omega
abbrev orN (m i:Nat):Nat:=m|||(1<<<i)
theorem orI {m i:Nat} (hm:m<512) (hi:i<9):IntKind.i64.wrap ((BitVec.ofInt IntKind.i64.bits (m:Int)|||BitVec.ofInt IntKind.i64.bits ((1<<<i:Nat):Int)).toNat:Int)=((m|||(1<<<i):Nat):Int):=by
 have:∀m:Fin 512,∀i:Fin 9,IntKind.i64.wrap ((BitVec.ofInt IntKind.i64.bits (m.val:Int)|||BitVec.ofInt IntKind.i64.bits ((1<<<i.val:Nat):Int)).toNat:Int)=((m.val|||(1<<<i.val):Nat):Int):=by decide+kernel
 exact this ⟨m,hm⟩ ⟨i,hi⟩
theorem PW {i:Nat} (hi:i<9):IntKind.i64.wrap (1*2^(min ((i:Nat):Int).toNat IntKind.i64.bits))=((1<<<i:Nat):Int):=by
 have:∀i:Fin 9,IntKind.i64.wrap (1*2^(min ((i.val:Nat):Int).toNat IntKind.i64.bits))=((1<<<i.val:Nat):Int):=by decide+kernel
 exact this ⟨i,hi⟩
def JZ:Option Nat→AV
 |some s=> .tup [iv s,iv 0]
 |none=> .tup [iv 0,iv 6]
theorem mF (c:List UInt8) (hc:c.length≤1000000):Ab Tryz.prog 71 [.d (Af false c),iv 9] (fun r=>r=JZ (Q9 c)):=by
 have hD:=uV c hc
 have bad:dcB c=none→Q9 c=none→Ab Tryz.prog 71 [.d (Af false c),iv 9] (fun r=>r=JZ (Q9 c)):=fun h1 h2=>by
  rw[h1] at hD
  rw[h2]
  have hL:=Sa [] 0 (by simp) (by omega)
  have hL:Ab Tryz.prog 102 [.agg [A4,iv 0]] (fun r=>r=iv 0):=hL.les (Jw (show Oc [.agg [A4,iv 0]] [btA [] 0] by exact Mq))
  refine acQ 57 Tryz.func71 rfl rfl fun _ _ _=> ?_
  (repeat'((conv=>whnf);first|refine Ac ?_|refine Ae ?_|refine Aa hD F5 ?_|refine Aa hL rfl ?_|exact zE))
 cases c with
 |nil=>exact bad rfl rfl
 |cons u l=>
  simp only[Ag] at hc
  have hu:=u.toNat_lt
  have e1:dcB (u::l)=if Dq l u.toNat=true then some (l,u.toNat) else none:=rfl
  have e2:Q9 (u::l)=if Dq l u.toNat=true∧8*l.length-u.toNat≤9∧(0<8*l.length-u.toNat→Gp l (8*l.length-u.toNat-1)=true) then some (stN (Gp l) (8*l.length-u.toNat)) else none:=rfl
  cases hv:Dq l u.toNat
  ·exact bad (by rw[e1,hv];rfl) (by rw[e2,hv,if_neg (by simp)])
  clear bad
  rw[e1,if_pos hv] at hD
  have hD:Ab Tryz.prog 101 [.d (Af false (u::l))] (fun r=>r= .tup [.agg [.d (Af true l),iv u.toNat],iv 0]):=hD
  rw[e2]
  have hL:=Sa l u.toNat (by omega) (by omega)
  have hbl:Ki l u.toNat=8*l.length-u.toNat:=by unfold Ki;rw[if_pos hv]
  have hI:=fun i hi=>CT l u.toNat i (by omega) (by omega) hi
  have hat:∀i,i<8*l.length-u.toNat→atB l u.toNat i=Gp l i:=fun i hi=>by
   unfold atB
   rw[hbl,decide_eq_true hi,Bool.true_and]
  rw[hbl] at hL
  generalize hn:8*l.length-u.toNat=n at hL hat⊢
  by_cases h9:n≤9
  ·have g9:decide ((n:Int)>9)=false:=decide_eq_false (by omega)
   by_cases h0:n=0
   ·have g0:decide ((n:Int)>0)=false:=decide_eq_false (by omega)
    rw[if_pos ⟨hv,h9,fun h=>absurd h (by omega)⟩]
    refine acQ 57 Tryz.func71 rfl rfl fun _ _ _=> ?_
    (repeat'((conv=>whnf);first|refine zN ?_|refine Ae ?_|refine Aa hD F5 ?_|refine Aa hL F5 ?_));(all_goals(conv=>whnf))
    refine Ax (fun i:Nat=>i≤n) (fun i=>n-i) (fun i=>⟨[(9,.cl 103 [] [.d (.cp false [Af true l,.v (.int .i64 (u.toNat:Int))])]),(10,iv (stN (Gp l) i)),(44,iv n),(45,iv i)],[],[]⟩) 0 (by omega) leQ ?_
    intro i hi
    by_cases hik:i<n
    ·have gi:decide ((i:Int)<n)=true:=decide_eq_true (by omega)
     have hIi:=hI i (by omega)
     rw[hat i hik] at hIi
     have hlt:=mE (Gp l) i
     have hpw:2^i≤2^8:=Nat.pow_le_pow_right (by omega) (by omega)
     have a1:=PW (i:=i) (by omega)
     have a2:=orI (m:=stN (Gp l) i) (i:=i) (by omega) (by omega)
     have hs:stN (Gp l) (i+1)=if Gp l i=true then stN (Gp l) i|||(1<<<i) else stN (Gp l) i:=rfl
     generalize stN (Gp l) i=q at hlt a2 hs
     cases hb:Gp l i
     ·rw[hb] at hIi
      rw[hb,if_neg (by simp)] at hs
      (repeat'((conv=>whnf);first|refine zP ?_|refine Ae ?_|refine Aa hIi F5 ?_|(with_reducible refine NInt.i64 ?_)));(all_goals(conv=>whnf))
      refine⟨i+1,by omega,by omega,?_⟩
      rw[hs]
      exact leQ
     ·rw[hb] at hIi
      rw[hb,if_pos rfl] at hs
      (repeat'((conv=>whnf);first|refine zP ?_|refine Ac ?_|refine Aa hIi F5 ?_|refine NInt.as (((1<<<i:Nat):Int)) (a1) ?_|refine NInt.as (((orN q i:Nat):Int)) (a2) ?_|(with_reducible refine NInt.i64 ?_)|refine Au (by first|decide|omega|(simp only[Ag,List.length_nil];omega)) ?_));(all_goals(conv=>whnf))
      refine⟨i+1,by omega,by omega,?_⟩
      rw[hs]
      exact leQ
    ·have gi:decide ((i:Int)<n)=false:=decide_eq_false (by omega)
     obtain rfl:i=n:=by omega
     (repeat'((conv=>whnf);refine zN ?_));(all_goals(conv=>whnf))
     all_goals exact zE
   ·have g0:decide ((n:Int)>0)=true:=decide_eq_true (by omega)
    have hI1:=hI (n-1) (by omega)
    rw[hat (n-1) (by omega)] at hI1
    cases hb1:Gp l (n-1)
    ·rw[if_neg (by rintro⟨-,-,h⟩;have:=h (by omega);simp at this)]
     rw[hb1] at hI1
     refine acQ 57 Tryz.func71 rfl rfl fun _ _ _=> ?_
     (repeat'((conv=>whnf);first|refine zP ?_|refine zN ?_|refine Ac ?_|refine Ae ?_|refine Aa hD F5 ?_|refine Aa hL F5 ?_|refine NInt.as (((n-1:Nat):Int)) ((by rw[IntWalk.i64_in _ (by omega)];omega)) ?_|refine Aa hI1 F5 ?_|exact zE))
    ·rw[if_pos ⟨hv,h9,fun _=>rfl⟩]
     rw[hb1] at hI1
     refine acQ 57 Tryz.func71 rfl rfl fun _ _ _=> ?_
     (repeat'((conv=>whnf);first|refine zP ?_|refine zN ?_|refine Ac ?_|refine Ae ?_|refine Aa hD F5 ?_|refine Aa hL F5 ?_|refine NInt.as (((n-1:Nat):Int)) ((by rw[IntWalk.i64_in _ (by omega)];omega)) ?_|refine Aa hI1 F5 ?_));(all_goals(conv=>whnf))
     refine Ax (fun i:Nat=>i≤n) (fun i=>n-i) (fun i=>⟨[(9,.cl 103 [] [.d (.cp false [Af true l,.v (.int .i64 (u.toNat:Int))])]),(10,iv (stN (Gp l) i)),(44,iv n),(45,iv i)],[],[]⟩) 0 (by omega) leQ ?_
     intro i hi
     by_cases hik:i<n
     ·have gi:decide ((i:Int)<n)=true:=decide_eq_true (by omega)
      have hIi:=hI i (by omega)
      rw[hat i hik] at hIi
      have hlt:=mE (Gp l) i
      have hpw:2^i≤2^8:=Nat.pow_le_pow_right (by omega) (by omega)
      have a1:=PW (i:=i) (by omega)
      have a2:=orI (m:=stN (Gp l) i) (i:=i) (by omega) (by omega)
      have hs:stN (Gp l) (i+1)=if Gp l i=true then stN (Gp l) i|||(1<<<i) else stN (Gp l) i:=rfl
      generalize stN (Gp l) i=q at hlt a2 hs
      cases hb:Gp l i
      ·rw[hb] at hIi
       rw[hb,if_neg (by simp)] at hs
       (repeat'((conv=>whnf);first|refine zP ?_|refine Ae ?_|refine Aa hIi F5 ?_|(with_reducible refine NInt.i64 ?_)));(all_goals(conv=>whnf))
       refine⟨i+1,by omega,by omega,?_⟩
       rw[hs]
       exact leQ
      ·rw[hb] at hIi
       rw[hb,if_pos rfl] at hs
       (repeat'((conv=>whnf);first|refine zP ?_|refine Ac ?_|refine Aa hIi F5 ?_|refine NInt.as (((1<<<i:Nat):Int)) (a1) ?_|refine NInt.as (((orN q i:Nat):Int)) (a2) ?_|(with_reducible refine NInt.i64 ?_)|refine Au (by first|decide|omega|(simp only[Ag,List.length_nil];omega)) ?_));(all_goals(conv=>whnf))
       refine⟨i+1,by omega,by omega,?_⟩
       rw[hs]
       exact leQ
     ·have gi:decide ((i:Int)<n)=false:=decide_eq_false (by omega)
      obtain rfl:i=n:=by omega
      (repeat'((conv=>whnf);refine zN ?_));(all_goals(conv=>whnf))
      all_goals exact zE
  ·have g9:decide ((n:Int)>9)=true:=decide_eq_true (by omega)
   rw[if_neg (fun h=>h9 h.2.1)]
   refine acQ 57 Tryz.func71 rfl rfl fun _ _ _=> ?_
   (repeat'((conv=>whnf);first|refine zP ?_|refine Ac ?_|refine Ae ?_|refine Aa hD F5 ?_|refine Aa hL F5 ?_|exact zE))
theorem IQ {b:Bool} {A B:Prop} (h:b=true) (ha:A):(bif b then A else B):=by subst h;exact ha
theorem qD {k j:Nat} {ds:List D} {c:List AV} (hne:j≠k):∀{l:List (Nat×List AV)},lk j l=some c→lk j (frB k ds l)=some (AV.frzs k ds c)
 |[],h=>by cases h
 |(i,c')::r,h=>by
  simp only[lk] at h
  cases hb:Nat.beq i j with
  |true=>
   rw[hb] at h
   cases h
   obtain rfl:=Nat.eq_of_beq_eq_true hb
   have:Nat.beq i k=false:=by
    cases hc:Nat.beq i k with
    |false=>rfl
    |true=>exact absurd (Nat.eq_of_beq_eq_true hc) hne
   simp only[frB,this,Bs]
  |false=>
   rw[hb] at h
   have ih:=qD (k:=k) (ds:=ds) hne h
   simp only[frB]
   cases hc:Nat.beq i k with
   |true=>exact ih
   |false=>simp only[lk,hb];exact ih
theorem CU {σ:AS} {k j n:Nat} {l:List UInt8} {r:List AV} (hk:lk k σ.bx=some ((Ak l).map AV.d)) (hj:lk j σ.bx=some (.pk k 0 n 1::r)) (hne:j≠k) (hn:n=l.length):Ent σ ⟨frT k (Ak l) σ.tm,(j,.d (Af false l)::AV.frzs k (Ak l) r)::frB k (Ak l) σ.bx,σ.tk⟩:=by
 rintro C a w ⟨bm,gt,fp,hg0⟩
 obtain⟨fp',hg,hR⟩:=hg0.frz hk (Gk l)
 have hjf:lk j (frB k (Ak l) σ.bx)=some (AV.frzs k (Ak l) (.pk k 0 n 1::r)):=qD hne hj
 have old:∀{i c},lk i ((j,AV.d (Af false l)::AV.frzs k (Ak l) r)::frB k (Ak l) σ.bx)=some c→∃c',lk i (frB k (Ak l) σ.bx)=some c':=fun{i c} h=>by
  by_cases e:j=i
  ·subst e;exact⟨_,hjf⟩
  ·rw[Cf _ _ e] at h;exact⟨_,h⟩
 refine⟨bm,gt,fp',{hg with bx:=fun i c h=> ?_,bxi:=fun i i' c c' h h' he=> ?_,tkb:=fun i i' x c h h'=> ?_}⟩
 ·by_cases e:j=i
  ·subst e
   rw[Bs] at h
   cases h
   have hB:=hg.bx j _ hjf
   obtain⟨cur,e1,h1,h2,h3⟩:=hB.obj
   obtain⟨cur0,e0,k1,k2,k3⟩:=(hg0.bx j _ hj).obj
   rw[h1] at k1
   cases k1
   refine⟨hB.own,hB.un,cur,e1,h1,by simpa[AV.frzs] using h2,fun i u v hu hv=> ?_⟩
   cases i with
   |zero=>
    simp only[List.getElem?_cons_zero,Option.some.injEq] at hu
    subst hu
    have q:=k3 0 _ v (List.getElem?_cons_zero) hv
    cases q with
    |pk q1 q2=>
     have q3:=hR n 1 _ (Gj l) (by rw[B7];omega) q1 q2
     rw[Nat.mul_one,List.take_of_length_le (by rw[B7];omega)] at q3
     subst hn
     exact .d q3
   |succ i=>
    exact h3 (i+1) u v (by simpa[AV.frzs] using hu) hv
  ·rw[Cf _ _ e] at h
   exact hg.bx i c h
 ·obtain⟨c1,h1⟩:=old h
  obtain⟨c2,h2⟩:=old h'
  exact hg.bxi i i' c1 c2 h1 h2 he
 ·obtain⟨c2,h2⟩:=old h'
  exact hg.tkb i i' x c2 h h2
theorem Pv {p:Prop} (h:p:=by first|rfl|(simp only[AV.gives,AV.ren,AV.give,D.un,D.uns,An,Ao,List.nil_append,List.append_nil,List.cons_append,List.drop];first|done|rfl)):p:=h
theorem X0 (l:List UInt8) (u:Nat) (hl:l.length≤1000000) (hu:u≤7) (hv:Dq l u=true):Ab Tryz.prog 130 [btA l u] (fun r=>r= .tup [Bb 0 5 (UInt8.ofNat u::l),iv 0]):=by
 have hV:=Pu l u hl (by omega)
 rw[hv] at hV
 refine acQ 14 Tryz.func130 rfl rfl fun _ _ _=> ?_
 (repeat'((conv=>whnf);first|refine Ae ?_|refine Aa hV Pv ?_|(with_reducible refine Bi (u) ?_)|(refine H3 (UInt8.ofNat u::l).length (Ak (UInt8.ofNat u::l)) ?_)|exact zE))
def rbS (b:List UInt8) (m:Nat):List UInt8:=b.set (m/8) (UInt8.ofNat ((b.getD (m/8) 0).toNat+128/2^(m%8)))
def rbI (s j:Nat):List UInt8:=((mbr s).take j).foldl rbS (List.replicate (lst s/8+1) 0)
theorem NX:∀s:Fin 512,s.val≠0→UInt8.ofNat (7-lst s.val%8)::rbI s.val (mbr s.val).length=Dd s.val∧Dq (rbI s.val (mbr s.val).length) (7-lst s.val%8)=true:=by decide+kernel
theorem IR (s j:Nat):(rbI s j).length=lst s/8+1:=by
 have:∀(l:List Nat) (b:List UInt8),(l.foldl rbS b).length=b.length:=by
  intro l
  induction l with
  |nil=>intro b;rfl
  |cons m r ih=>intro b;rw[List.foldl_cons,ih];exact List.length_set
 unfold rbI
 rw[this,List.length_replicate]
theorem CV {s j m:Nat} (h:(mbr s)[j]?=some m):rbI s (j+1)=rbS (rbI s j) m:=by
 obtain⟨hlt,he⟩:=Aw.1 h
 unfold rbI
 rw[List.take_succ_eq_append_getElem hlt,he,List.foldl_append];rfl
def Zj:List UInt8:=[128,64,32,16,8,4,2,1]
theorem IS {k:Nat} (h:k<8):((Ak Zj).drop (k*1)).take 1=[.v (.int .u8 ((128/2^k:Nat):Int))]:=by
 rcases(by omega:k=0∨k=1∨k=2∨k=3∨k=4∨k=5∨k=6∨k=7) with rfl|rfl|rfl|rfl|rfl|rfl|rfl|rfl<;>rfl
theorem W7 (s:Nat) (hs:s<512):Ab Tryz.prog 96 [iv s,iv 9] (fun r=>r= .tup [Bb 0 5 (Dd s),iv 0]):=by
 have hM:=CP s hs
 have g0:decide ((s:Int)<0)=false:=decide_eq_false (by omega)
 by_cases h0:s=0
 ·subst h0
  show Ab _ _ _ (fun r=>r= .tup [Bb 0 5 [0],iv 0])
  refine acQ 81 Tryz.func96 rfl rfl fun _ _ _=> ?_
  (repeat'((conv=>whnf);first|refine zN ?_|refine Ac ?_|refine Ae ?_|refine Aa hM rfl ?_|exact zE))
 have he:=NX ⟨s,hs⟩ h0
 obtain⟨l1,l2,l3,l4,l5⟩:=qC ⟨s,hs⟩ h0
 simp only at he l1 l2 l3 l4 l5
 have hel:=IR s
 have hsu:=fun j m=>CV (s:=s) (j:=j) (m:=m)
 have h00:rbI s 0=List.replicate (lst s/8+1) 0:=rfl
 have gl:(((mbr s).length:Int)==0)=false:=by rw[beq_eq_false_iff_ne];omega
 have hE:=X0 (rbI s (mbr s).length) (7-lst s%8) (by rw[hel];omega) (by omega) he.2
 rw[he.1] at hE
 clear he
 generalize Dd s=R at hE⊢
 generalize rbI s=eb at hE hel hsu h00
 generalize mbr s=M at hM gl l1 l2 l3 l5 hsu hE
 generalize lst s=q at l1 l4 l5 hel h00 hE
 have g9:decide ((q:Int)≥9)=false:=decide_eq_false (by omega)
 refine acX 81 [] Tryz.func96 rfl rfl fun _ _ _=> ?_
 (repeat'((conv=>whnf);first|refine zN ?_|refine Ae ?_|refine Aa hM rfl ?_|refine NIdx.tab (fun _=>rfl) l1 ?_|refine NInt.as (((M.length-1:Nat):Int)) ((by rw[IntWalk.i64_in _ (by omega)];omega)) ?_|refine NInt.as (((q/8+1:Nat):Int)) ((by rw[IntWalk.i64_in _ (by omega)];omega)) ?_|refine NInt.as (((7-q%8:Nat):Int)) ((by rw[IntWalk.i64_in _ (by omega)];omega)) ?_|(refine Aj (W5 rfl rfl (ltN rfl) 2000 rfl rfl rfl (by omega)) ?_)|(refine IQ (by(repeat'(first|exact rfl|exact Gs _ _|refine Bool.and_eq_true_iff.2 ⟨?_,?_⟩))) ?_)|(refine Aj (Yb (κ:=3000) (cs:=(Ak Zj).map AV.d) (ds:=Ak Zj) rfl rfl (ltN rfl) (C2.ty rfl) tyB rfl rfl rfl rfl (by omega) (by omega) (by(repeat'(first|exact rfl|exact Gs _ _|refine Bool.and_eq_true_iff.2 ⟨?_,?_⟩)))) ?_)|(with_reducible refine Bz ?_)|(with_reducible refine Bh ?_)|refine Au (by first|decide|omega|(simp only[Ag,List.length_nil];omega)) ?_));(all_goals(conv=>whnf))
 refine Zg (α:=Option Nat) (fun a=>∀j,a=some j→j<M.length) (fun a=>match a with|some j=>M.length-j|none=>0) (fun a=>match a with|some j=>⟨[(6,.d (Fb true 1 nbO M)),(8,.ptr 8 0),(9,.d (.sl true 8 1 (Ak Zj))),(10,iv j)],[(2000,(Ak (eb j)).map AV.d),(8,[.pk 2000 0 (q/8+1) 1,iv (7-q%8:Nat)])],[]⟩|none=>⟨[(6,.d (Fb true 1 nbO M)),(8,.ptr 8 0),(10,iv M.length)],[(8,[.d (Af false (eb M.length)),iv (7-q%8:Nat)])],[]⟩) (some 0) (fun j hj=>by cases hj;omega) (J9 ?_) ?_
 ·show wkW _ _ _ ⟨[(6,.d (Fb true 1 nbO M)),(8,.ptr 8 0),(9,.d (.sl true 8 1 (Ak Zj))),(10,iv (0:Nat))],[(2000,(Ak (eb 0)).map AV.d),(8,[.pk 2000 0 (q/8+1) 1,iv (7-q%8:Nat)])],[]⟩
  rw[h00]
  ((repeat'(first|exact trivial|exact Be _|refine And.intro ?_ ?_|exact rfl));(all_goals(conv=>whnf)))
  all_goals exact D2 _
 rintro(_|j) hj
 ·have gi:decide ((M.length:Int)<M.length)=false:=decide_eq_false (by omega)
  show _
  (repeat'((conv=>whnf);first|refine zN ?_|refine Aa hE Pv ?_|exact zE))
 ·have hjl:=hj j rfl
  have gi:decide ((j:Int)<M.length)=true:=decide_eq_true (by omega)
  obtain⟨m,hm⟩:∃m,M[j]?=some m:=⟨_,Am hjl⟩
  have hmq:m≤q:=of_decide_eq_true (List.all_eq_true.1 l5 m (A8 hm))
  have hlen:=hel j
  have hmi:m/8<q/8+1:=by omega
  have hml:m/8<(eb j).length:=by omega
  obtain⟨x,hx⟩:∃x,(eb j)[m/8]?=some x:=⟨_,Am hml⟩
  have hs':(eb j).set (m/8) (UInt8.ofNat (x.toNat+128/2^(m%8)))=eb (j+1):=by
   rw[hsu j m hm]
   unfold rbS
   rw[List.getD_eq_getElem?_getD,hx,Option.getD_some]
  have hk8:m%8<8:=by omega
  have hvals:=IS hk8
  have hcell:=W6 hx
  have hlen':=hel (j+1)
  have hxl:=x.toNat_lt
  generalize 128/2^(m%8)=z at hs' hvals
  (repeat'((conv=>whnf);first|refine zP ?_|refine NIdx.tab (fun _=>rfl) hm ?_|refine NLa.mk ⟨_,dW (m/8) rfl rfl (ltN rfl) Tryz.underlying22 tyB rfl rfl rfl hmi,?_⟩|refine NLa.mk ⟨_,Z3 rfl rfl (ltN rfl) rfl rfl tyB rfl hcell,?_⟩|refine NLa.mk ⟨_,wU rfl rfl (ltN rfl) Tryz.underlying22 tyB rfl rfl rfl rfl hk8 (by omega) hvals,?_⟩|refine NLa.mk ⟨_,dJ rfl rfl (ltN rfl) rfl tyB rfl rfl,?_⟩|(with_reducible refine Bi (x.toNat+z) ?_)|refine Aj (Fu rfl rfl rfl rfl rfl hml) ?_|(with_reducible refine NInt.i64 ?_)|(with_reducible refine Bz ?_)|(with_reducible refine Bh ?_)|refine zF ?_|refine Au (by first|decide|omega|(simp only[Ag,List.length_nil];omega)) ?_));(all_goals(conv=>whnf))
  rw[hs']
  by_cases hl:j+1<M.length
  ·refine⟨some (j+1),fun _ h=>by cases h;exact hl,by show M.length-(j+1)<M.length-j;omega,J9 ?_⟩
   show wkW _ _ _ ⟨[(6,.d (Fb true 1 nbO M)),(8,.ptr 8 0),(9,.d (.sl true 8 1 (Ak Zj))),(10,iv (j+1:Nat))],[(2000,(Ak (eb (j+1))).map AV.d),(8,[.pk 2000 0 (q/8+1) 1,iv (7-q%8:Nat)])],[]⟩
   ((repeat'(first|exact trivial|exact Be _|refine And.intro ?_ ?_));(all_goals(conv=>whnf)))
   all_goals exact D2 _
  ·have hle:j+1=M.length:=by omega
   have hlen2:=hel M.length
   rw[hle]
   refine⟨none,(fun _ h=>by cases h),by show 0<M.length-j;omega,Ent.step (CU (k:=2000) (j:=8) (n:=q/8+1) (l:=eb M.length) rfl rfl (by omega) hlen2.symm) (J9 ?_)⟩
   show wkW _ _ _ ⟨[(6,.d (Fb true 1 nbO M)),(8,.ptr 8 0),(10,iv M.length)],[(8,[.d (Af false (eb M.length)),iv (7-q%8:Nat)])],[]⟩
   exact leQ
def L7 (c:List UInt8):List UInt8×Nat:=(dcB c).getD ([],0)
def Hc (l:List UInt8) (u:Nat):Nat→Nat
 |0=>0
 |i+1=>if atB l u i=true then Hc l u i+2^i else Hc l u i
theorem bV (l:List UInt8) (u:Nat):∀i,Hc l u i<2^i
 |0=>by simp[Hc]
 |i+1=>by
  have:=bV l u i
  unfold Hc
  rw[Nat.pow_succ]
  split<;>omega
def IT (c:List UInt8):Nat:=if Dd (Hc (L7 c).1 (L7 c).2 9)=c then Hc (L7 c).1 (L7 c).2 9 else 0
theorem mG (c:List UInt8) (hc:c.length≤1000000) (hB:Ab Tryz.prog 7 [.d (Af false (Dd (Hc (L7 c).1 (L7 c).2 9))),.d (Af false c)] (fun r=>r=bv (Dd (Hc (L7 c).1 (L7 c).2 9)==c))):∃k:Int,Ab Tryz.prog 90 [.d (Af false c),iv 9] (fun r=>r= .tup [iv (IT c),iv k]):=by
 have hD:=mC c hc
 have hlu:(L7 c).1.length≤1000000∧(L7 c).2≤255:=by
  unfold L7
  cases c with
  |nil=>exact⟨by simp[dcB],by simp[dcB]⟩
  |cons u l=>
   simp only[Ag] at hc
   have:=u.toNat_lt
   have e1:dcB (u::l)=if Dq l u.toNat=true then some (l,u.toNat) else none:=rfl
   rw[e1]
   split
   ·exact⟨by show l.length≤_;omega,by show u.toNat≤_;omega⟩
   ·exact⟨by simp,by simp⟩
 unfold IT
 have hl:L7 c=(dcB c).getD ([],0):=rfl
 obtain⟨L,U,hLU⟩:∃L U,L7 c=(L,U):=⟨_,_,rfl⟩
 rw[hLU] at hlu hB hl⊢
 simp only at hlu hB⊢
 have hA:=fun i hi=>uW L U i hlu.1 hlu.2 hi
 have hslt:=bV L U 9
 have hss:∀i,Hc L U (i+1)=if atB L U i=true then Hc L U i+2^i else Hc L U i:=fun i=>rfl
 have hsl:=bV L U
 have hE:=W7 (Hc L U 9) hslt
 have hpw:∀i,i≤9→2^i≤512:=fun i hi=>Nat.le_trans (Nat.pow_le_pow_right (by omega) hi) (by decide)
 refine⟨if Dd (Hc L U 9)=c then 0 else 6,?_⟩
 have hcase:(dcB c=none∧L=[]∧U=0)∨dcB c=some (L,U):=by
  cases h:dcB c with
  |none=>
   rw[h] at hl
   cases hl
   exact .inl ⟨rfl,rfl,rfl⟩
  |some p=>
   rw[h] at hl
   exact .inr (by rw[hl];rfl)
 clear hl hLU hlu hslt
 rcases hcase with⟨h,hL0,hU0⟩|h
 all_goals
  rw[h] at hD
  clear h
  refine acQ 48 Tryz.func90 rfl rfl fun _ _ _=> ?_
  (repeat'((conv=>whnf);first|refine Ae ?_|refine Aa hD Pv ?_));(all_goals(conv=>whnf))
  refine Ax (fun i:Nat=>i≤9) (fun i=>9-i) (fun i=>⟨[(0,.d (Af false c)),(1,iv 9),(6,.ptr 6 0),(8,iv (Hc L U i:Nat)),(9,iv (2^i:Nat)),(10,iv i)],[(6,[.d (Af false L),iv U])],[]⟩) 0 (by omega) (by first|(subst hL0 hU0;exact leQ;done)|(exact leQ)) ?_
  intro i hi
  have hlt:=hsl i
  have hp:=hpw i hi
  by_cases hik:i<9
  ·have gi:decide ((i:Int)<9)=true:=decide_eq_true (by omega)
   have hAi:=hA i (by omega)
   have hs:=hss i
   have hpp:2^(i+1)=2^i*2:=Nat.pow_succ ..
   generalize Hc L U i=q at hlt hs
   generalize 2^i=z at hlt hp hs hpp
   cases hb:atB L U i
   ·rw[hb] at hAi
    rw[hb,if_neg (by simp)] at hs
    (repeat'((conv=>whnf);first|refine zP ?_|refine Ae ?_|refine Aa hAi Pv ?_|refine NInt.as (((z*2:Nat):Int)) ((by rw[IntWalk.i64_in _ (by omega)];omega)) ?_|(with_reducible refine NInt.i64 ?_)));(all_goals(conv=>whnf))
    refine⟨i+1,by omega,by omega,?_⟩
    rw[hs,hpp]
    exact leQ
   ·rw[hb] at hAi
    rw[hb,if_pos rfl] at hs
    (repeat'((conv=>whnf);first|refine zP ?_|refine Ac ?_|refine Aa hAi Pv ?_|refine NInt.as (((q+z:Nat):Int)) ((by rw[IntWalk.i64_in _ (by omega)];omega)) ?_|refine NInt.as (((z*2:Nat):Int)) ((by rw[IntWalk.i64_in _ (by omega)];omega)) ?_|(with_reducible refine NInt.i64 ?_)));(all_goals(conv=>whnf))
    refine⟨i+1,by omega,by omega,?_⟩
    rw[hs,hpp]
    exact leQ
  ·have gi:decide ((i:Int)<9)=false:=decide_eq_false (by omega)
   obtain rfl:i=9:=by omega
   by_cases he:Dd (Hc L U 9)=c
   ·rw[if_pos he]
    rw[show(Dd (Hc L U 9)==c)=true by rw[beq_iff_eq];exact he] at hB
    (repeat'((conv=>whnf);first|refine zN ?_|refine Ae ?_|refine Aa hE rfl ?_|refine Aa hB Pv ?_));(all_goals(conv=>whnf))
    all_goals(refine A7 ?_;(repeat'(first|exact trivial|exact Be _|refine And.intro ?_ ?_|exact rfl));(all_goals(conv=>whnf)))
    all_goals(rw[if_pos he])
   ·rw[if_neg he]
    rw[show(Dd (Hc L U 9)==c)=false by rw[beq_eq_false_iff_ne];exact he] at hB
    (repeat'((conv=>whnf);first|refine zN ?_|refine Ac ?_|refine Aa hE rfl ?_|refine Aa hB Pv ?_));(all_goals(conv=>whnf))
    all_goals(refine A7 ?_;(repeat'(first|exact trivial|exact Be _|refine And.intro ?_ ?_|exact rfl));(all_goals(conv=>whnf)))
    all_goals(rw[if_neg he])
theorem W8:∀i,Hc [] 0 i=0
 |0=>rfl
 |i+1=>by
  have e:Hc [] 0 (i+1)=if atB [] 0 i=true then Hc [] 0 i+2^i else Hc [] 0 i:=rfl
  rw[e,W8 i,if_neg (by unfold atB Ki;simp)]
theorem qE {u:UInt8} {l:List UInt8} (h:Dq l u.toNat=true):∀i,Hc l u.toNat i=Xz u l i
 |0=>rfl
 |i+1=>by
  have e1:Hc l u.toNat (i+1)=if atB l u.toNat i=true then Hc l u.toNat i+2^i else Hc l u.toNat i:=rfl
  have e2:Xz u l (i+1)=Xz u l i+if IK u l i=true then 2^i else 0:=rfl
  have e3:atB l u.toNat i=IK u l i:=by
   unfold atB IK Ki
   rw[if_pos h]
  rw[e1,e2,e3,qE h i]
  split<;>simp
theorem IU (c:List UInt8):IT c=rdS c:=by
 have:Hc (L7 c).1 (L7 c).2 9=stR c:=by
  cases c with
  |nil=>exact W8 9
  |cons u l=>
   have e1:L7 (u::l)=(if Dq l u.toNat=true then some (l,u.toNat) else none).getD ([],0):=rfl
   have e2:stR (u::l)=if Dq l u.toNat=true then Xz u l 9 else 0:=rfl
   rw[e1,e2]
   by_cases h:Dq l u.toNat=true
   ·rw[if_pos h,if_pos h];exact qE h 9
   ·rw[if_neg h,if_neg h];exact W8 9
 unfold IT rdS
 rw[this]
def uY (c:List UInt8):AV:=if c=[255] then .tup [bv true,iv 0] else if c=[0] then .tup [bv false,iv 0] else .tup [bv false,iv 6]
theorem CW (c:List UInt8) (hc:c.length≤1000000000):Ab Tryz.prog 44 [.d (Af false c)] (fun r=>r=uY c):=by
 match c,hc with
 |[],_=>
  show Ab _ _ _ (fun r=>r= .tup [bv false,iv 6])
  refine acQ 23 Tryz.func44 rfl rfl fun _ _ _=> ?_
  (repeat'((conv=>whnf);refine Ac ?_));(all_goals(conv=>whnf))
  all_goals exact zE
 |[x],_=>
  have h0:([x]:List UInt8)[0]?=some x:=rfl
  have hx:=x.toNat_lt
  by_cases x0:x=0
  ·subst x0
   show Ab _ _ _ (fun r=>r= .tup [bv false,iv 0])
   refine acQ 23 Tryz.func44 rfl rfl fun _ _ _=> ?_
   (repeat'((conv=>whnf);first|refine Ae ?_|refine NIdx.bytes h0 ?_|exact zE))
  ·by_cases x1:x=255
   ·subst x1
    show Ab _ _ _ (fun r=>r= .tup [bv true,iv 0])
    refine acQ 23 Tryz.func44 rfl rfl fun _ _ _=> ?_
    (repeat'((conv=>whnf);first|refine Ac ?_|refine Ae ?_|refine NIdx.bytes h0 ?_|exact zE))
   ·have e:uY [x]= .tup [bv false,iv 6]:=by
     unfold uY
     rw[if_neg (by simpa using x1),if_neg (by simpa using x0)]
    have g0:((x.toNat:Int) !=0)=true:=by rw[bne_iff_ne];intro h;exact x0 (UInt8.toNat_inj.1 (show x.toNat=0 by omega))
    have g1:((x.toNat:Int) !=255)=true:=by rw[bne_iff_ne];intro h;exact x1 (UInt8.toNat_inj.1 (show x.toNat=255 by omega))
    rw[e]
    refine acQ 23 Tryz.func44 rfl rfl fun _ _ _=> ?_
    (repeat'((conv=>whnf);first|refine zP ?_|refine Ac ?_|refine Ae ?_|refine NIdx.bytes h0 ?_|exact zE))
 |x::y::r,hc=>
  have e:uY (x::y::r)= .tup [bv false,iv 6]:=by
   unfold uY
   rw[if_neg (by simp),if_neg (by simp)]
  have gl:((((x::y::r).length:Nat):Int) !=1)=true:=by rw[bne_iff_ne];simp only[Ag];omega
  rw[e]
  refine acQ 23 Tryz.func44 rfl rfl fun _ _ _=> ?_
  (repeat'((conv=>whnf);first|refine zP ?_|refine Ac ?_|exact zE))
theorem bW:Ab Tryz.prog 40 [bv true] (fun r=>r=Bb 0 5 [255]):=by
 refine acQ 6 Tryz.func40 rfl rfl fun _ _ _=> ?_
 (repeat'((conv=>whnf);refine Ac ?_));(all_goals(conv=>whnf))
 all_goals exact zE
end Go.Proofs.YtokmjjkbginodaaGreatDoor
