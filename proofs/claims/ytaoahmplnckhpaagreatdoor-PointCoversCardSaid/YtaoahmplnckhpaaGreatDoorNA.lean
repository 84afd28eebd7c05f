/- NA: the texts BsP BsM PkM BsV BsE BsD BsR Bol, one behind the other. No condition but what each lemma says. -/
import Derived.Test.YtaoahmplnckhpaaGreatDoorMD
import Derived.Laws.MakeOwn
namespace Go.Proofs.YtaoahmplnckhpaaGreatDoor
open Go.RowKit
set_option maxRecDepth 100000
def EM (x:Nat):Nat:=(List.range 8).foldl (fun a i=>a+(if x.testBit i then 2^(7-i) else 0)) 0
def Hj (s:Nat):List UInt8:=if s=0 then [0] else if s<256 then [UInt8.ofNat (7-s.log2),UInt8.ofNat (EM s)] else [7,UInt8.ofNat (EM (s%256)),128]
def EN (l:List UInt8) (i:Nat):Bool:=((l.getD (i/8) 0).toNat>>>(7-i%8))%2==1
def stN (f:Nat→Bool):Nat→Nat
 |0=>0
 |i+1=>if f i then stN f i|||(1<<<i) else stN f i
def EO (l:List UInt8) (u:Nat):Bool:=match l.getLast? with
 |none=>u==0
 |some x=>decide (u≤7)&&(x.toNat%2^u==0)
def CP:List UInt8→Option Nat
 |[]=>none
 |u::l=>if EO l u.toNat=true∧8*l.length-u.toNat≤9∧(0<8*l.length-u.toNat→EN l (8*l.length-u.toNat-1)=true) then some (stN (EN l) (8*l.length-u.toNat)) else none
theorem tP:∀s:Fin 512,CP (Hj s)=some s.val:=by decide+kernel
theorem tQ {s:Nat} (h:s<512):CP (Hj s)=some s:=tP ⟨s,h⟩
def yI (c:List UInt8):Option Nat:=(CP c).filter (fun s=>s !=0)
theorem tR {s:Nat} (h:s<512) (h0:s≠0):yI (Hj s)=some s:=by
 unfold yI
 rw[tQ h]
 simp[Option.filter,h0]
set_option maxHeartbeats 8000000
def nbO (n:Nat):List D:=[.v (.int .i64 (n:Int))]
def mbI (s i:Nat):List Nat:=(List.range i).filter fun j=>s/2^j%2==1
def mbr (s:Nat):List Nat:=mbI s 9
theorem Z8 (s i:Nat):mbI s (i+1)=if s/2^i%2=1 then mbI s i++[i] else mbI s i:=by
 unfold mbI
 rw[List.range_succ,List.filter_append]
 by_cases h:s/2^i%2=1
 ·rw[if_pos h];simp[h]
 ·rw[if_neg h];simp[h]
theorem iM:∀s:Fin 512,∀i:Fin 10,s.val/2^i.val=0→mbI s i=mbr s:=by decide+kernel
theorem Qa (s i:Nat):(mbI s i).length≤i:=by
 unfold mbI
 exact Nat.le_trans (List.length_filter_le _ _) (by rw[List.length_range];exact Nat.le_refl _)
theorem CQ {s i:Nat} (h:i≤64):(s:Int).fdiv (2^(min ((i:Nat):Int).toNat 64))=((s/2^i:Nat):Int):=by
 rw[Int.toNat_natCast,Nat.min_eq_left h,Int.fdiv_eq_ediv_of_nonneg _ (by exact_mod_cast Nat.zero_le (2^i)),Int.natCast_ediv,Int.natCast_pow];rfl
theorem FC {m:Nat} (h:m<512):IntKind.i64.wrap ((BitVec.ofInt IntKind.i64.bits (m:Int)&&&BitVec.ofInt IntKind.i64.bits 1).toNat:Int)=((m%2:Nat):Int):=by
 have:∀m:Fin 512,IntKind.i64.wrap ((BitVec.ofInt IntKind.i64.bits (m.val:Int)&&&BitVec.ofInt IntKind.i64.bits 1).toNat:Int)=((m.val%2:Nat):Int):=by decide+kernel
 exact this ⟨m,h⟩
theorem EP {s i:Nat} (hs:s<512) (h:s/2^i≠0):i<9:=by
 rcases Nat.lt_or_ge i 9 with h9|h9
 ·exact h9
 ·exfalso
  apply h
  rw[Nat.div_eq_zero_iff]
  have:2^9≤2^i:=Nat.pow_le_pow_right (by omega) h9
  right;omega
theorem mX (s:Nat) (hs:s<512):Ac Tryz.prog 119 [iv s] (fun r=>r=C7 0 1 3 nbO (mbr s)):=by
 have g0:decide ((s:Int)<0)=false:=decide_eq_false (by omega)
 refine acQ 23 Tryz.func119 rfl rfl fun _ _ _=> ?_
 (repeat'((conv=>whnf);refine zN ?_));(all_goals(conv=>whnf))
 refine Bt [.s 3 1 3] (fun i:Nat=>i≤9) (fun i=>9-i) (fun i=>⟨[(0,iv s),(3,C7 3 1 3 nbO (mbI s i)),(4,iv i)],[],[(3,((mbI s i).length,1,3))]⟩) 0 (by omega) leQ ?_
 intro i hi
 have hml:=Qa s i
 have hsh:=CQ (s:=s) (i:=i) (by omega)
 have hd:=Nat.div_le_self s (2^i)
 by_cases h0:s/2^i=0
 ·have gi:(((s/2^i:Nat):Int) !=0)=false:=by rw[h0];rfl
  have he:=iM ⟨s,hs⟩ ⟨i,by omega⟩ h0
  simp only at he
  rw[he]
  (repeat'((conv=>whnf);first|refine zN ?_|refine NInt.as (((s/2^i:Nat):Int)) (hsh) ?_|refine A0 (by first|decide|omega|(simp only[Ag,List.length_nil];omega)) ?_|exact zE))
 ·have gi:(((s/2^i:Nat):Int) !=0)=true:=by rw[bne_iff_ne];omega
  have h9:=EP hs h0
  have hsu:=Z8 s i
  have ha:=FC (m:=s/2^i) (by omega)
  generalize mbI s i=a at hml hsu
  by_cases h1:s/2^i%2=1
  ·rw[if_pos h1] at hsu
   have g1:(((s/2^i%2:Nat):Int) !=0)=true:=by rw[h1];rfl
   (repeat'((conv=>whnf);first|refine zP ?_|refine NInt.as (((s/2^i:Nat):Int)) (hsh) ?_|refine NInt.as (((s/2^i%2:Nat):Int)) (ha) ?_|refine A8 nbO i ?_|(with_reducible refine NInt.i64 ?_)|refine A0 (by first|decide|omega|(simp only[Ag,List.length_nil];omega)) ?_));(all_goals(conv=>whnf))
   refine⟨i+1,by omega,by omega,?_⟩
   rw[hsu]
   exact leQ
  ·rw[if_neg h1] at hsu
   have g1:(((s/2^i%2:Nat):Int) !=0)=false:=by rw[show s/2^i%2=0 by omega];rfl
   (repeat'((conv=>whnf);first|refine zP ?_|refine zN ?_|refine NInt.as (((s/2^i:Nat):Int)) (hsh) ?_|refine NInt.as (((s/2^i%2:Nat):Int)) (ha) ?_|(with_reducible refine NInt.i64 ?_)|refine A0 (by first|decide|omega|(simp only[Ag,List.length_nil];omega)) ?_));(all_goals(conv=>whnf))
   refine⟨i+1,by omega,by omega,?_⟩
   rw[hsu]
   exact leQ
theorem Z9 (s:Nat) (hs:s<512):Ac Tryz.prog 35 [iv s] (fun r=>r=C7 0 1 3 nbO (mbr s)):=by
 refine acQ 19 Tryz.func35 rfl rfl fun _ _ _=> ?_
 (all_goals(conv=>whnf))
 refine Bt [.s 3 1 3] (fun i:Nat=>i≤9) (fun i=>9-i) (fun i=>⟨[(0,iv ((s/2^i:Nat):Int)),(3,C7 3 1 3 nbO (mbI s i)),(4,iv i)],[],[(3,((mbI s i).length,1,3))]⟩) 0 (by omega) leQ ?_
 intro i hi
 have hml:=Qa s i
 have hd:=Nat.div_le_self s (2^i)
 have hp:s/2^i/2=s/2^(i+1):=by rw[Nat.div_div_eq_div_mul,Nat.pow_succ]
 by_cases h0:s/2^i=0
 ·have gi:decide (((s/2^i:Nat):Int)>0)=false:=by rw[h0];rfl
  have he:=iM ⟨s,hs⟩ ⟨i,by omega⟩ h0
  simp only at he
  rw[he]
  (repeat'((conv=>whnf);refine zN ?_));(all_goals(conv=>whnf))
  all_goals exact zE
 ·have gi:decide (((s/2^i:Nat):Int)>0)=true:=decide_eq_true (by have:=Nat.pos_of_ne_zero h0;exact_mod_cast this)
  have h9:=EP hs h0
  have hsu:=Z8 s i
  generalize mbI s i=a at hml hsu
  generalize hq:s/2^i=q at*
  by_cases h1:q%2=1
  ·rw[if_pos h1] at hsu
   have g1:(((q%2:Nat):Int)==1)=true:=by rw[h1];rfl
   (repeat'((conv=>whnf);first|refine zP ?_|refine A8 nbO i ?_|(with_reducible refine NInt.i64 ?_)|(with_reducible refine C1 ?_)|(with_reducible refine Ca ?_)|refine A0 (by first|decide|omega|(simp only[Ag,List.length_nil];omega)) ?_));(all_goals(conv=>whnf))
   refine⟨i+1,by omega,by omega,?_⟩
   rw[hsu,←hp]
   exact leQ
  ·rw[if_neg h1] at hsu
   have g1:(((q%2:Nat):Int)==1)=false:=by rw[show q%2=0 by omega];rfl
   (repeat'((conv=>whnf);first|refine zP ?_|refine zN ?_|(with_reducible refine NInt.i64 ?_)|(with_reducible refine C1 ?_)|(with_reducible refine Ca ?_)|refine A0 (by first|decide|omega|(simp only[Ag,List.length_nil];omega)) ?_));(all_goals(conv=>whnf))
   refine⟨i+1,by omega,by omega,?_⟩
   rw[hsu,←hp]
   exact leQ
section
variable {P:Program} {C:Cx} {o:Oper} {σ:AS} {t:Nat}
theorem tS {z:Value} {k i:Nat} {v:Value} (h:(madeCells #[z] k)[i]?=some v):v=z:=by
 unfold madeCells at h
 rw[Array.getElem?_map,Option.map_eq_some_iff] at h
 obtain⟨j,-,rfl⟩:=h
 have:j%(#[z]:Array Value).size=0:=by show j%1=0;omega
 rw[this];rfl
theorem mY {st e:TypeId} {x y:Operand} {n by':Nat} {d:TypeDesc} {zv:Value} (ho:o.op= .makeSlice st x y) (hd:o.dst=some t) (ht:t<C.N) {κ:Nat} (hc:σ.clean κ=true) (hx:σ.eval x=some (.d (.v (.int .i64 (n:Int))))) (hy:σ.eval y=some (.d (.v (.int .i64 (n:Int)))))
 (hT:P.underlying st=some (.slice e)) (hE:TyOk P e d zv 1 by') (hz:zv.cells=#[zv]) (hn:n≤1000000) (hby:by'≤1000):Bf P C o σ ⟨(t,.pk κ 0 n 1)::σ.tm,(κ,List.replicate n (AV.d (.v zv)))::σ.bx,σ.tk⟩:=by
 rintro a w ⟨bm,gt,fp,hg⟩ K Q hK
 obtain⟨i,hi,hz0,hz1,hz2⟩:=hE.inf
 have h1:=(hg.eval hx).val
 have h2:=(hg.eval hy).val
 have hbytes:(i.bytes:Int)*(n:Int)≤281474976710656:=by
  have:i.bytes*n≤1000*1000000:=Nat.mul_le_mul (by omega) hn
  have h3:((i.bytes*n:Nat):Int)≤281474976710656:=by omega
  rwa[Int.natCast_mul] at h3
 have hr:=run_make (P:=P) w st e i zv hT hi hz0 .i64 .i64 n n (by omega) (Int.le_refl _) hbytes (by omega)
 rw[Int.toNat_natCast,hz1,Nat.mul_one,hz] at hr
 have hrun:(execOp a.eval o).run P w= .ok (.value (.slice (some ⟨w.heap.size,0,none⟩) n n)) (w.alloc (.cells (madeCells #[zv] n) e)):=by
  simp only[execOp,ho,h1,h2,Sem.run_bind,hr,Sem.run_pure,Result.andThen_ok]
 unfold Oper.wp
 rw[hrun,Oper.upon_value,hd]
 have hcl:∀m:Nat,AV.cleans κ (List.replicate m (AV.d (.v zv)))=true:=by
  intro m
  induction m with
  |zero=>rfl
  |succ m ih=>rw[List.replicate_succ];simp[AV.cleans,AV.clean,ih]
 have h3:=hg.newBox (k:=κ) hc (cs:=List.replicate n (AV.d (.v zv))) (cur:=madeCells #[zv] n) (e:=e) (hcl n) (by rw[List.length_replicate,size_madeCells];exact Nat.le_refl _) (fun i u v hu hv=>by
  have:=tS hv
  subst this
  rw[List.getElem?_replicate] at hu
  split at hu
  ·cases hu;exact .d (.v _)
  ·cases hu)
 have h4:=h3.put (t:=t) (u:= .pk κ 0 n 1) ht (.pk (Nat.le_refl n) (by unfold maxLen;omega))
 rw[BM.set_same] at h4
 exact hK _ _ ⟨_,_,_,h4⟩
end
theorem mZ {α:Type} {tm:TM} {bx:BX} {tk:TK} {R:KS→KS} (inv:α→Prop) (ms:α→Nat) (st:α→AS) (a0:α) (h0:inv a0) (w0:Ent ⟨tm,bx,tk⟩ (st a0))
 (round:∀a,inv a→R (fun tm' bx' tk'=>∃a',inv a'∧ms a'<ms a∧Ent ⟨tm',bx',tk'⟩ (st a')) (st a).tm (st a).bx (st a).tk):NLoop tm bx tk R:=
 ⟨α,inv,ms,st,fun a b=>Ent a b,a0,fun _ _ h=>h,h0,w0,round⟩
theorem Ent.step {σ σ' σ'':AS} (h:Ent σ σ') (h':Ent σ' σ''):Ent σ σ'':=fun C a w hG=>h' C a w (h C a w hG)
theorem nA (n:Nat):List.replicate n (AV.d (.v (.int .u8 0)))=(Ar (List.replicate n (0:UInt8))).map AV.d:=by
 induction n with
 |zero=>rfl
 |succ n ih=>rw[List.replicate_succ,List.replicate_succ,ih];rfl
section
variable {C:Cx} {o:Oper} {σ:AS} {t:Nat}
theorem eI {x y:Operand} {n:Nat} (ho:o.op= .makeSlice 33 x y) (hd:o.dst=some t) (ht:t<C.N) (κ:Nat) (hc:σ.clean κ=true) (hx:σ.eval x=some (iv n)) (hy:σ.eval y=some (iv n)) (hn:n≤1000000):
 Bf Tryz.prog C o σ ⟨(t,.pk κ 0 n 1)::σ.tm,(κ,(Ar (List.replicate n (0:UInt8))).map AV.d)::σ.bx,σ.tk⟩:=by
 rw[←nA]
 exact mY ho hd ht hc hx hy Tryz.underlying33 tyB rfl hn (by omega)
end
def orU (x:UInt8) (k:Nat):UInt8:=UInt8.ofNat (x.toNat|||128/2^k)
def lst (s:Nat):Nat:=(mbr s).getLast?.getD 0
def eb0 (s:Nat):List UInt8:=UInt8.ofNat (7-lst s%8)::List.replicate (1+lst s/8) 0
def ebS (b:List UInt8) (m:Nat):List UInt8:=b.set (1+m/8) (orU (b.getD (1+m/8) 0) (m%8))
def ebI (s j:Nat):List UInt8:=((mbr s).take j).foldl ebS (eb0 s)
theorem CR:∀s:Fin 512,s.val≠0→ebI s.val (mbr s.val).length=Hj s.val:=by decide+kernel
theorem yJ:∀s:Fin 512,s.val≠0→(mbr s.val)[(mbr s.val).length-1]?=some (lst s.val)∧0<(mbr s.val).length∧(mbr s.val).length≤9∧lst s.val<9∧((mbr s.val).all fun m=>decide (m≤lst s.val))=true:=by decide+kernel
theorem yK (b:List UInt8) (m:Nat):(ebS b m).length=b.length:=List.length_set
theorem yL (s j:Nat):(ebI s j).length=2+lst s/8:=by
 have:∀(l:List Nat) (b:List UInt8),(l.foldl ebS b).length=b.length:=by
  intro l
  induction l with
  |nil=>intro b;rfl
  |cons m r ih=>intro b;rw[List.foldl_cons,ih,yK]
 unfold ebI
 rw[this]
 unfold eb0
 rw[Ag,List.length_replicate];omega
theorem tT {s j m:Nat} (h:(mbr s)[j]?=some m):ebI s (j+1)=ebS (ebI s j) m:=by
 obtain⟨hlt,he⟩:=As.1 h
 unfold ebI
 rw[List.take_succ_eq_append_getElem hlt,he,List.foldl_append];rfl
theorem CS {k:Nat} (h:k≤7):(128:Int).fdiv (2^(min ((k:Nat):Int).toNat IntKind.u8.bits))=((128/2^k:Nat):Int):=by
 have:∀k:Fin 8,(128:Int).fdiv (2^(min ((k.val:Nat):Int).toNat IntKind.u8.bits))=((128/2^k.val:Nat):Int):=by decide+kernel
 exact this ⟨k,by omega⟩
theorem orB (x:UInt8) {k:Nat} (h:k≤7):IntKind.u8.wrap ((BitVec.ofInt IntKind.u8.bits (x.toNat:Int)|||BitVec.ofInt IntKind.u8.bits ((128/2^k:Nat):Int)).toNat:Int)=((orU x k).toNat:Int):=by
 have:∀k:Fin 8,∀x:Fin 256,IntKind.u8.wrap ((BitVec.ofInt IntKind.u8.bits (x.val:Int)|||BitVec.ofInt IntKind.u8.bits ((128/2^k.val:Nat):Int)).toNat:Int)=((UInt8.ofNat (x.val|||128/2^k.val)).toNat:Int):=by decide+kernel
 exact this ⟨k,by omega⟩ ⟨x.toNat,x.toNat_lt⟩
theorem eJ {l:List UInt8} {i:Nat} {b:UInt8} (h:l[i]?=some b):((Ar l).map AV.d)[0+i*1]?=some (cv b.toNat):=by
 rw[Nat.zero_add,Nat.mul_one,List.getElem?_map,F3,h];rfl
theorem Uo (s:Nat) (hs:s<512):Ac Tryz.prog 86 [iv s,iv 9] (fun r=>r= .tup [.d (Af false (Hj s)),iv 0]):=by
 have hM:=mX s hs
 have g0:decide ((s:Int)<0)=false:=decide_eq_false (by omega)
 have hsh:(s:Int).fdiv (2^(min (Int.toNat 9) IntKind.i64.bits))=((s/2^9:Nat):Int):=CQ (i:=9) (by omega)
 have gz:(((s/2^9:Nat):Int) !=0)=false:=by rw[show s/2^9=0 by omega];rfl
 by_cases h0:s=0
 ·subst h0
  refine acQ 68 Tryz.func86 rfl rfl fun _ _ _=> ?_
  (repeat'((conv=>whnf);first|refine zN ?_|refine Ab ?_|refine Ae ?_|refine NInt.as (((0/2^9:Nat):Int)) (hsh) ?_|refine Aa hM rfl ?_|refine A0 (by first|decide|omega|(simp only[Ag,List.length_nil];omega)) ?_|exact zE))
 have he:=CR ⟨s,hs⟩ h0
 obtain⟨l1,l2,l3,l4,l5⟩:=yJ ⟨s,hs⟩ h0
 simp only at he l1 l2 l3 l4 l5
 have hel:=yL s
 have hsu:=fun j m=>tT (s:=s) (j:=j) (m:=m)
 have h00:ebI s 0=UInt8.ofNat (7-lst s%8)::List.replicate (1+lst s/8) 0:=rfl
 have gl:(((mbr s).length:Int)==0)=false:=by rw[beq_eq_false_iff_ne];omega
 rw[←he]
 generalize ebI s=eb at he hel hsu h00⊢
 generalize mbr s=M at hM gl l1 l2 l3 l5 hsu⊢
 clear he
 generalize lst s=q at l1 l4 l5 hel h00
 refine acX 68 [] Tryz.func86 rfl rfl fun _ _ _=> ?_
 have hb0:0<(List.replicate (1+q/8+1) (0:UInt8)).length:=by rw[List.length_replicate];omega
 have hn0:0<1+q/8+1:=by omega
 have hcv:IntKind.u8.wrap ((7-q%8:Nat):Int)=((UInt8.ofNat (7-q%8)).toNat:Int):=U8 _
 (repeat'((conv=>whnf);first|refine zN ?_|refine Ae ?_|refine NInt.as (((s/2^9:Nat):Int)) (hsh) ?_|refine Aa hM rfl ?_|refine NIdx.tab (fun _=>rfl) l1 ?_|refine NInt.as (((M.length-1:Nat):Int)) ((by rw[IntWalk.i64_in _ (by omega)];omega)) ?_|refine NInt.as (((1+q/8+1:Nat):Int)) ((by rw[IntWalk.i64_in _ (by omega)];omega)) ?_|refine NInt.as (((7-q%8:Nat):Int)) ((by rw[IntWalk.i64_in _ (by omega)];omega)) ?_|(refine A9 (eI rfl rfl (ltN rfl) 2000 rfl rfl rfl (by omega)) ?_)|refine A9 (Tl rfl rfl (ltN rfl) Tryz.underlying3 Tryz.underlying5 rfl hcv) ?_|refine A9 (Q5 0 rfl rfl (ltN rfl) Tryz.underlying33 tyB rfl rfl rfl hn0) ?_|refine A9 (Pa rfl rfl rfl rfl rfl hb0) ?_|(with_reducible refine C1 ?_)|(with_reducible refine Ca ?_)|refine A0 (by first|decide|omega|(simp only[Ag,List.length_nil];omega)) ?_));(all_goals(conv=>whnf))
 refine mZ (α:=Option Nat) (fun a=>∀j,a=some j→j<M.length) (fun a=>match a with|some j=>M.length-j|none=>0) (fun a=>match a with|some j=>⟨[(8,.pk 2000 0 (1+q/8+1) 1),(49,.d (Ey true 1 nbO M)),(50,iv M.length),(51,iv j)],[(2000,(Ar (eb j)).map AV.d)],[]⟩|none=>⟨[(8,.d (Af false (eb M.length))),(49,.d (Ey true 1 nbO M)),(50,iv M.length),(51,iv M.length)],[],[]⟩) (some 0) (fun j hj=>by cases hj;omega) (Lz ?_) ?_
 ·show wkW _ _ _ ⟨[(8,.pk 2000 0 (1+q/8+1) 1),(49,.d (Ey true 1 nbO M)),(50,iv M.length),(51,iv (0:Nat))],[(2000,(Ar (eb 0)).map AV.d)],[]⟩
  rw[h00]
  ((repeat'(first|exact trivial|exact Cp _|refine And.intro ?_ ?_|exact rfl));(all_goals(conv=>whnf)))
  all_goals exact Ip _
 rintro(_|j) hj
 ·have gi:decide ((M.length:Int)<M.length)=false:=decide_eq_false (by omega)
  show _
  (repeat'((conv=>whnf);refine zN ?_));(all_goals(conv=>whnf))
  all_goals exact zE
 ·have hjl:=hj j rfl
  have gi:decide ((j:Int)<M.length)=true:=decide_eq_true (by omega)
  obtain⟨m,hm⟩:∃m,M[j]?=some m:=⟨_,Ak hjl⟩
  have hmq:m≤q:=of_decide_eq_true (List.all_eq_true.1 l5 m (Bk hm))
  have hlen:=hel j
  have hmi:1+m/8<1+q/8+1:=by omega
  have hml:1+m/8<(eb j).length:=by omega
  obtain⟨x,hx⟩:∃x,(eb j)[1+m/8]?=some x:=⟨_,Ak hml⟩
  have hs':(eb j).set (1+m/8) (orU x (m%8))=eb (j+1):=by
   rw[hsu j m hm]
   unfold ebS
   rw[List.getD_eq_getElem?_getD,hx,Option.getD_some]
  have a1:=CS (k:=m%8) (by omega)
  have a2:=orB x (k:=m%8) (by omega)
  have hcell:=eJ hx
  have hlen':=hel (j+1)
  (repeat'((conv=>whnf);first|refine zP ?_|refine NIdx.tab (fun _=>rfl) hm ?_|refine NInt.as (((1+m/8:Nat):Int)) ((by rw[IntWalk.i64_in _ (by omega)];omega)) ?_|refine NInt.as (((128/2^(m%8):Nat):Int)) (a1) ?_|refine NInt.as (((orU x (m%8)).toNat:Int)) (a2) ?_|refine NLa.mk ⟨_,pU (1+m/8) rfl rfl (ltN rfl) Tryz.underlying33 tyB rfl rfl rfl hmi,?_⟩|refine NLa.mk ⟨_,fK rfl rfl (ltN rfl) rfl rfl tyB rfl hcell,?_⟩|refine A9 (Pa rfl rfl rfl rfl rfl hml) ?_|(with_reducible refine NInt.i64 ?_)|(with_reducible refine C1 ?_)|(with_reducible refine Ca ?_)|refine zF ?_|refine A0 (by first|decide|omega|(simp only[Ag,List.length_nil];omega)) ?_));(all_goals(conv=>whnf))
  rw[hs']
  by_cases hl:j+1<M.length
  ·refine⟨some (j+1),fun _ h=>by cases h;exact hl,by show M.length-(j+1)<M.length-j;omega,Lz ?_⟩
   show wkW _ _ _ ⟨[(8,.pk 2000 0 (1+q/8+1) 1),(49,.d (Ey true 1 nbO M)),(50,iv M.length),(51,iv (j+1:Nat))],[(2000,(Ar (eb (j+1))).map AV.d)],[]⟩
   ((repeat'(first|exact trivial|exact Cp _|refine And.intro ?_ ?_));(all_goals(conv=>whnf)))
   all_goals exact Ip _
  ·have hle:j+1=M.length:=by omega
   have hlen2:=hel M.length
   rw[hle]
   refine⟨none,(fun _ h=>by cases h),by show 0<M.length-j;omega,Ent.step (Yd (k:=2000) (n:=1+q/8+1) (sz:=1) [8] rfl (Q8 (eb M.length)) (fun s hs=>by rw[List.mem_singleton.1 hs];rfl) (by rw[C3,hlen2];omega) (Q7 _)) (Lz ?_)⟩
   rw[Nat.mul_one,List.take_of_length_le (by rw[C3,hlen2];omega)]
   show wkW _ _ _ ⟨[(8,.d (Af false (eb M.length))),(49,.d (Ey true 1 nbO M)),(50,iv M.length),(51,iv M.length)],[],[]⟩
   have hbl:1+q/8+1=(eb M.length).length:=by rw[hlen2];omega
   rw[hbl]
   exact leQ
theorem W2:Ac Tryz.prog 56 [bv true] (fun r=>r=Cg 0 5 [255]):=by
 refine acQ 6 Tryz.func56 rfl rfl fun _ _ _=> ?_
 (repeat'((conv=>whnf);refine Ab ?_));(all_goals(conv=>whnf))
 all_goals exact zE
end Go.Proofs.YtaoahmplnckhpaaGreatDoor
