/- QH: PcI Kin Knd Dcf Dco. No condition. -/
import Derived.Test.YtbedjionhmaafaaGreatDoorQC
set_option linter.all false
namespace Go.Proofs.YtbedjionhmaafaaGreatDoor
open Go.RowKit
variable {ats:Array TypeId} {v:Value} {x:Operand} {u:AV} {f:FuncId} {B:Nat} {fp:Nat->Nat->Prop} {w:World} {bm:BM} {gt:Nat->Value}
section
variable {P:Program} {C:Cx} {o:Oper} {tm:TM} {bx:BX} {tk:TK} {K:KS} {f:FuncId} {k off:Nat} {us c0:List AV} {Φ:AV->List AV->Prop}
theorem iH {t:Nat} {i:AV} (h:PC P f k off (i::us) c0 Φ) {r:Operand} {name:String} {args:Array Operand} {d:TypeId} {v':Value} (q:o.op= .call {callee:= .invoke r name,args:=args,argTypes:=ats}) (g:o.dst=Option.some t) (s:Nat.blt t C.N=true) (E:AS.eval ⟨tm,bx,tk⟩ r=Option.some (.d (.v (.iface d v)))) (L:evL ⟨tm,bx,tk⟩ args.toList=Option.some us)
 (U:∀w,(method (P.types.size+Made.depth) d v name).run P w= .ok (f,v') w) (A:∀B fp w bm gt,RA B fp w bm gt i v') (m:lk k bx=Option.some c0) (p:CF off tm bx tk) (J:∀r b,Φ r b->K ((t,r)::tm) ((k,b)::bx) tk):NStep P C o tm bx tk K:=by
 obtain⟨W,c,j,Q,F,H,z,N,R⟩:=h
 refine .pcS (Φ:=Φ) (S:=fun _=>True) (GW q (fun V a=>by rw[g] at a;cases a;exact ltN s) E L U A Q j F H z N fun I=>R _ _ _ I tm bx tk o.dst m p) fun r b O=> ?_
 unfold jnS
 rw[g]
 exact J r b O
theorem Fp.op {σ σ':AS} {o':Oper} (g:∀b,execOp b o=execOp b o') (i:o.dst=o'.dst) (h:Fp P C o' σ σ'):Fp P C o σ σ':=fun a w d K Q c=>by
 have:=h a w d K Q c
 unfold Oper.wp at this|-
 rw[g]
 generalize (execOp a.eval o').run P w=R at this|-
 unfold Oper.upon at this|-
 rw[i]
 exact this
theorem RL {σ:AS} {T k e:TypeId} {y q:Operand} {m n:Nat} {M:Lit->Option Value} {l:Lit} {key:Value} (a:List Nat) (c:o.op= .insert T x y q) (h:o.dst=none) (d:σ.eval x=some (Kl P k C.W.heap.size m n M)) (p:σ.eval y=some (.d (.v key))) (g:σ.eval q=some u)
 (j:∀B fp w bm gt v',RA B fp w bm gt u v'->v'=v) (A:∀s∈a,lk s σ.tm=some (Kl P k C.W.heap.size m n M))
 (r:P.underlying T=some (.map k e)) (z:Maps.Keyed P k) (b:keyOf P k key=some l) (i:n<maxLen):Fp P C o σ ⟨a.map (fun s=>(s,Kl P k C.W.heap.size m (n+1) (F6 M l v)))++duT σ.tm,duB σ.bx,σ.tk⟩:=
 .op (o':={o with op:= .mapUpdate T x y q}) (fun E=>by simp only[execOp,c]) rfl (Fk a rfl h d p g j A r z b i)
end
def dsT (d:Option Nat) (r:AV) (tm:TM):TM:=match d with
 |some t=>(t,r)::tm
 |none=>tm
def PF (P:Program) (f:FuncId) (off:Nat):Prop:=
 ∃fn c,P.funcs[f]?=some fn/\(∀xs0 w,(callFunc f xs0).run P w= .ok (.enter f xs0) w)/\fn.body=some c/\fn.results.size<=4/\1<=fn.ntmps/\fn.ntmps<=1000000/\
  ∀W fp0 z0 gh tm bx tk d k p,G3 P ⟨W,fp0,fn.ntmps,gh,z0⟩ c (mV P fn.results.toList d (fun σ=>Ent σ ⟨dsT d (.ptr k (p+off)) tm,bx,tk⟩)) ⟨inT [.ptr k p] tm,bx,tk⟩
structure PfW (tm:TM) (bx:BX) (tk:TK) (r u:AV) (tm':TM) (bx':BX) (tk':TK):Prop where
 h:leW u r
 t:TlT tm tm'
 b:bx'=bx
 q:tk'=tk
noncomputable def pfK (T:Tab) (rs:Array ResultVar) (tm:TM) (bx:BX) (tk:TK) (r:AV):KS:=fun tm' bx' tk'=>nC T tm' bx' rs.toList (fun us=>PfW tm bx tk r (single us) tm' bx' tk')
theorem RM {P:Program} {T:Tab} (F:TabOk P T) {z:Array ResultVar} {tm tm':TM} {bx g:BX} {tk b:TK} {r:AV} {d:Option Nat} (h:pfK T z tm bx tk r tm' g b):
 ∃us,Oo P ⟨tm',g,b⟩ z.toList us/\Ent ((AS.mk tm' g b).ret d (single us)) ⟨dsT d r tm,bx,tk⟩:=by
 obtain⟨us,E,p⟩:=Us (tk:=b) F h
 have A:=p.t.back
 obtain rfl:=p.b
 obtain rfl:=p.q
 refine⟨us,E,fun C a w H=>H.weak ⟨fun t m i=> ?_,fun j c q=>⟨c,q,Ln c⟩,fun j x q=>q⟩⟩
 cases d with
 |none=>exact⟨m,by show lk t (Uk tm')=_;rw[A];exact i,.refl m⟩
 |some s=>
  have i:lk t ((s,r)::tm)=some m:=i
  by_cases e:s=t
  ·subst e
   rw[F1] at i
   cases i
   exact⟨_,F1 _ _ _,aP p.h⟩
  ·rw[Gm _ _ e] at i
   exact⟨m,by show lk t ((s,_)::Uk tm')=_;rw[Gm _ _ e,A];exact i,.refl m⟩
theorem Pd {P:Program} {T:Tab} {b:Func} {c:Code} {o:Nat} (N:Nat) (i:Array ResultVar) (g:TabOk P T) (E:P.follows .mixedOrders=true) (s:P.funcs[f]?=some b) (A:b.ntmps=N) (r:(b.name== "runtime.NumGoroutine")=false) (z:b.body=some c) (H:b.results=i) (F:Nat.ble i.size 4=true) (j:(Nat.ble 1 N&&Nat.ble N 1000000)=true)
 (h:∀W fp0 m q tm bx tk k p,Ki P ⟨W,fp0,N,q,m⟩ ⟨T.ty,T.fd,T.st,T.mu,0⟩ c (pfK T i tm bx tk (.ptr k (p+o))) (fun _ _ _ _=>False) (pfK T i tm bx tk (.ptr k (p+o))) ((0,.ptr k p)::ghM 1000000 tm) bx tk):PF P f o:=by
 subst H A
 simp only[Et] at j
 refine⟨b,c,s,P2 s r z,z,leN F,leN j.1,leN j.2,fun W fp0 m q tm bx tk d k p=> ?_⟩
 have I:=Tj (T:=⟨T.ty,T.fd,T.st,T.mu,0⟩) ⟨g.ty,g.fd,g.st⟩ E c _ _ _ _ _ _ (h W fp0 m q tm bx tk k p)
 refine I7 I fun e σ a=> ?_
 cases e with
 |normal=>exact RM g a
 |exit id=>exact False.elim a
 |ret=>exact RM g a
 |goto l=>exact a.elim
 |panic c=>exact a.elim
 |_=>first|exact a.elim|exact a
theorem PfW.mk' {tm:TM} {bx:BX} {tk:TK} {r:AV} {tm':TM} (h:leW u r) (t:TlT tm tm':=by repeat'(first|exact TlT.nil|refine TlT.cons rfl ?_)):PfW tm bx tk r u tm' bx tk:=⟨h,t,rfl,rfl⟩
section
variable {P:Program} {C:Cx} {o:Oper} {σ:AS} {t:Nat}
theorem zzW {p:Prop} (h:p:=by exact PfW.mk' ⟨rfl,rfl⟩):p:=h
theorem Nc {off s k p:Nat} (h:PF P f off) (r:o.op= .call {callee:= .value (.tmp s),args:=#[x],argTypes:=ats}) (i:o.dst=some t) (z:t<C.N) (F:σ.eval (.tmp s)=some (.cl f [] [])) (E:σ.eval x=some (.ptr k p)):Fp P C o σ (σ.put t (.ptr k (p+off))):=by
 obtain⟨W,c,j,R,H,I,A,N,U⟩:=h
 intro a w O K Q m
 exact fP r (fun V b=>by rw[i] at b;cases b;exact z) F (us:=[.ptr k p]) (by unfold evL evL;rw[E]) R j H I A N (fun J=>U _ _ _ J σ.tm σ.bx σ.tk o.dst k p) a w O K Q fun q L w' g d=>m L w' (by rw[i] at g;exact g _ _ _ d)
theorem iI {off s k p:Nat} (h:PF P f off) (a:o.op= .call {callee:= .value (.tmp s),args:=#[x],argTypes:=ats}) (g:o.dst=some t) (c:t<C.N) (i:σ.eval (.tmp s)=some (.cl f [] [])) (d:σ.eval x=some (.ptr k p)):LA P C o ⟨[],some (t,.ptr k (p+off)),none,none,[],[],[],[]⟩ σ:=fun _ b _ _=>
 Nc h a g c (tr b (by rw[a];simp[Op.operands,Call.operands]) i) (tr b (by rw[a];simp[Op.operands,Call.operands]) d)
end
set_option maxRecDepth 100000
set_option maxHeartbeats 16000000
abbrev fnV (f:Nat):Value:= .func (.func f) #[] #[]
abbrev coV (a m p:Nat):Value:= .agg #[fnV a,fnV m,fnV p]
abbrev knV (id nm:List UInt8) (T:Nat) (a m p:Nat):Value:= .agg #[.string ⟨⟨id⟩⟩,.string ⟨⟨nm⟩⟩,.iface T (coV a m p)]
def Zd:List (Int×Value):=[
 (0,knV [] [111,112,97,113,117,101] 348 197 210 211),
 (9,knV [50,46,53,46,50,57,46,57] [83,117,98,106,101,99,116,68,105,114,101,99,116,111,114,121,65,116,116,114,105,98,117,116,101,115] 366 212 213 214),
 (14,knV [50,46,53,46,50,57,46,49,52] [83,117,98,106,101,99,116,75,101,121,73,100,101,110,116,105,102,105,101,114] 348 197 215 216),
 (15,knV [50,46,53,46,50,57,46,49,53] [75,101,121,85,115,97,103,101] 368 198 217 218),
 (17,knV [50,46,53,46,50,57,46,49,55] [83,117,98,106,101,99,116,65,108,116,78,97,109,101] 346 199 200 201),
 (18,knV [50,46,53,46,50,57,46,49,56] [73,115,115,117,101,114,65,108,116,78,97,109,101] 346 199 200 201),
 (19,knV [50,46,53,46,50,57,46,49,57] [66,97,115,105,99,67,111,110,115,116,114,97,105,110,116,115] 374 219 220 221),
 (20,knV [50,46,53,46,50,57,46,50,48] [67,82,76,78,117,109,98,101,114] 348 197 202 203),
 (21,knV [50,46,53,46,50,57,46,50,49] [67,82,76,82,101,97,115,111,110] 368 198 222 223),
 (24,knV [50,46,53,46,50,57,46,50,52] [73,110,118,97,108,105,100,105,116,121,68,97,116,101] 378 224 225 226),
 (27,knV [50,46,53,46,50,57,46,50,55] [66,97,115,101,67,82,76,78,117,109,98,101,114] 348 197 202 203),
 (28,knV [50,46,53,46,50,57,46,50,56] [73,115,115,117,105,110,103,68,105,115,116,114,105,98,117,116,105,111,110,80,111,105,110,116] 384 227 228 229),
 (29,knV [50,46,53,46,50,57,46,50,57] [67,101,114,116,105,102,105,99,97,116,101,73,115,115,117,101,114] 346 199 200 201),
 (30,knV [50,46,53,46,50,57,46,51,48] [78,97,109,101,67,111,110,115,116,114,97,105,110,116,115] 390 230 231 232),
 (31,knV [50,46,53,46,50,57,46,51,49] [67,82,76,68,105,115,116,114,105,98,117,116,105,111,110,80,111,105,110,116,115] 354 204 205 206),
 (32,knV [50,46,53,46,50,57,46,51,50] [67,101,114,116,105,102,105,99,97,116,101,80,111,108,105,99,105,101,115] 396 233 234 235),
 (33,knV [50,46,53,46,50,57,46,51,51] [80,111,108,105,99,121,77,97,112,112,105,110,103,115] 402 236 237 238),
 (35,knV [50,46,53,46,50,57,46,51,53] [65,117,116,104,111,114,105,116,121,75,101,121,73,100,101,110,116,105,102,105,101,114] 408 239 240 241),
 (36,knV [50,46,53,46,50,57,46,51,54] [80,111,108,105,99,121,67,111,110,115,116,114,97,105,110,116,115] 414 242 243 244),
 (37,knV [50,46,53,46,50,57,46,51,55] [69,120,116,75,101,121,85,115,97,103,101] 420 245 246 247),
 (46,knV [50,46,53,46,50,57,46,52,54] [70,114,101,115,104,101,115,116,67,82,76] 354 204 205 206),
 (54,knV [50,46,53,46,50,57,46,53,52] [73,110,104,105,98,105,116,65,110,121,80,111,108,105,99,121] 368 198 248 249),
 (101,knV [49,46,51,46,54,46,49,46,53,46,53,46,55,46,49,46,49] [65,117,116,104,111,114,105,116,121,73,110,102,111,65,99,99,101,115,115] 360 207 208 209),
 (111,knV [49,46,51,46,54,46,49,46,53,46,53,46,55,46,49,46,49,49] [83,117,98,106,101,99,116,73,110,102,111,65,99,99,101,115,115] 360 207 208 209)]
def lM:Lit->Option Value:=Zd.foldl (fun M p=>F6 M (.int .i64 p.1) p.2) fun _=>none
theorem RN {f:Nat} (h:RA B fp w bm gt (.d (.fn f [])) v):v=fnV f:=by
 cases h with
 |d h=>
  cases h with
  |fn us a _=>
   obtain rfl:us=[]:=Cw.1 a
   rfl
theorem bu {x y z:AV} {a b c:Value} (j:∀v,RA B fp w bm gt x v->v=a) (i:∀v,RA B fp w bm gt y v->v=b) (m:∀v,RA B fp w bm gt z v->v=c) (h:RA B fp w bm gt (.agg [x,y,z]) v):v= .agg #[a,b,c]:=by
 cases h with
 |agg vs g d=>
  match vs,g with
  |[p,q,r],_=>
   rw[j p (d 0 _ _ rfl rfl),i q (d 1 _ _ rfl rfl),m r (d 2 _ _ rfl rfl)]
theorem Oi:Maps.Keyed Tryz.prog 3:=Maps.int_keyed Tryz.underlying3
theorem Zy (n:Int) (h:(Lit.int .i64 n).wf=true):keyOf Tryz.prog 3 (.int .i64 n)=some (.int .i64 n):=by simp[keyOf,mapKey,Tryz.underlying3,h]
def tabK (ms:List Nat):Tab:=⟨tyL,(310,[(0,1,false),(1,1,false),(2,1,false)])::fdL,(310,[(0,1),(1,1),(2,1)])::stL,ms++muL,0⟩
theorem tKok (ms:List Nat):TabOk Tryz.prog (tabK ms) where
 ty:=fun h=>VI h
 fd:=fun {_ _ i _ _ _} e g=>by
  have:=nH (i:=i) (jK (Q:=fun e:Nat×List (Nat×Nat×Bool)=>dp e.1 0 e.2) (l:=(310,[(0,1,false),(1,1,false),(2,1,false)])::fdL) (A1 ⟨⟨_,_,_,_,_,tyU rfl,rfl,rfl,VI rfl,rfl⟩,⟨_,_,_,_,_,tyU rfl,rfl,rfl,VI rfl,rfl⟩,⟨_,_,_,_,_,tyU rfl,rfl,rfl,(⟨Ac,Ac⟩:TyOk Tryz.prog 308 (.interface #[("cretula/dispatch.clear", 634), ("cretula/dispatch.decode", 313), ("cretula/dispatch.encode", 635)]) .nilIface 1 16),rfl⟩,trivial⟩ jo) e) g
  rw[A0] at this;exact this
 st:=fun h=>jK (Q:=fun e:Nat×List (Nat×Nat)=>StrOk Tryz.prog e.1 e.2) (l:=(310,[(0,1),(1,1),(2,1)])::stL) (A1 ⟨_,tyU rfl,fun w=>by kernel_rfl⟩ jp) h
theorem Vh:Es Tryz.prog 180 [] (fun r=>∃B m,r=Kl Tryz.prog 3 B m 24 lM):=by
 refine Fl 91 _ (tKok []) mixed Tryz.func180 rfl Ac rfl rfl rfl rfl fun _ _ _=> ?_
 (repeat'((conv=>whnf);first|((refine NStep.some (Ku 3 rfl rfl (ltN rfl)) ?_;rintro _ ⟨m,rfl⟩))|(refine Cs (lA rfl rfl (ltN rfl) rfl (fun _ _ _ _ _ _ h=>bu (fun _=>RN) (fun _=>RN) (fun _=>RN) h) (fun _=>rfl)) ?_)|((refine Fx (RL [12] rfl rfl rfl rfl rfl (fun _ _ _ _ _ _ h=>bu (fun _ h=>h.val) (fun _ h=>h.val) (fun _ h=>h.val) h) (fun s a=>by obtain rfl:=Bh.1 a;rfl) (Eg.ty rfl).u Oi (Zy _ rfl) Ae) ?_))));(all_goals(conv=>whnf))
 all_goals exact Gf rfl ⟨_,_,rfl⟩
def idV:Value->List UInt8
 | .agg ⟨[.string s,_,_]⟩=>s.data.toList
 |_=>[]
def RO:List (Int×List UInt8):=Zd.map fun p=>(p.1,idV p.2)
def eZ (id:List UInt8):Int:=if id=[] then 0 else((RO.find? fun p=>p.2==id).map (·.1)).getD 0
theorem rE {l:Lit} {v:Value}:∀(L:List (Int×Value)) (M:Lit->Option Value),L.foldl (fun M p=>F6 M (.int .i64 p.1) p.2) M l=some v->(∃p∈L,l= .int .i64 p.1/\v=p.2)\/M l=some v
 |[],_,h=> .inr h
 |p::r,M,h=>by
  rcases rE r _ h with⟨q,b,c⟩|h
  ·exact .inl ⟨q,Be _ b,c⟩
  ·have h:F6 M (.int .i64 p.1) p.2 l=some v:=h
   unfold F6 at h
   cases a:l.sameKey (.int .i64 p.1) with
   |true=>rw[a] at h;cases h;exact .inl ⟨p,Bd ..,WideAt.sameKey_eq a,rfl⟩
   |false=>rw[a] at h;exact .inr h
theorem rF {l:Lit} (h:lM l=some v):∃p∈Zd,l= .int .i64 p.1/\v=p.2:=by
 rcases rE Zd _ h with h|h
 ·exact h
 ·cases h
theorem BT:∀p∈Zd,lM (.int .i64 p.1)=some p.2:=by
 intro p a
 simp only[Zd,Bj,Cb,or_false] at a
 rcases a with rfl|rfl|rfl|rfl|rfl|rfl|rfl|rfl|rfl|rfl|rfl|rfl|rfl|rfl|rfl|rfl|rfl|rfl|rfl|rfl|rfl|rfl|rfl|rfl<;>rfl
theorem ZK:∀p∈Zd,∃id c T a m q,p.2=knV id c T a m q:=by
 intro p b
 simp only[Zd,Bj,Cb,or_false] at b
 rcases b with rfl|rfl|rfl|rfl|rfl|rfl|rfl|rfl|rfl|rfl|rfl|rfl|rfl|rfl|rfl|rfl|rfl|rfl|rfl|rfl|rfl|rfl|rfl|rfl<;>exact⟨_,_,_,_,_,_,rfl⟩
theorem ZL:∀p∈RO,p.2≠[]->eZ p.2=p.1:=by decide+kernel
theorem ZM {id:List UInt8} (h:id≠[]->∀p∈RO,p.2≠id):eZ id=0:=by
 unfold eZ
 split
 ·rfl
 ·rename_i b
  rw[List.find?_eq_none.2 fun p a=>by simpa using h b p a]
  rfl
theorem wQ {n:Int} (h:keyOf Tryz.prog 3 v=some (.int .i64 n)):v= .int .i64 n:=by
 simp only[keyOf,mapKey,Tryz.underlying3] at h
 split at h<;>simp_all
abbrev si (l:List UInt8):AV:= .d (.v (.string ⟨⟨l⟩⟩))
theorem BU:∀p∈Zd,(Lit.int .i64 p.1).wf=true:=by
 intro p a
 simp only[Zd,Bj,Cb,or_false] at a
 rcases a with rfl|rfl|rfl|rfl|rfl|rfl|rfl|rfl|rfl|rfl|rfl|rfl|rfl|rfl|rfl|rfl|rfl|rfl|rfl|rfl|rfl|rfl|rfl|rfl<;>rfl
theorem IQ (id:List UInt8) (hid:id.length<=1000000000):aC 179 [si id] (iv (eZ id)):=by
 refine Fl 21 _ (tKok [180]) mixed Tryz.func179 rfl Ac rfl rfl rfl rfl fun Z _ _=> ?_
 (repeat'((conv=>whnf);first|((refine No Vh 700 rfl rfl (ltN rfl) rfl rfl rfl rfl ?_;rintro _ ⟨B,m,rfl⟩))|((refine NStep.some (pZ rfl rfl (ltN rfl) rfl (Eg.ty rfl).u Oi) ?_;rintro _ ⟨r,N,left,j,rfl⟩))));(all_goals(conv=>whnf))
 refine Fh (fun z:(Lit->Bool)×Nat×Option (Value×Value)=>∀p∈Zd,z.1 (.int .i64 p.1)=false->id≠[]->idV p.2≠id) (fun z=>z.2.1) (fun z=>⟨[(0,si id),(2,iv 0),(6,itA Tryz.prog 3 Z.heap.size m r 24 lM z.1 z.2.1 z.2.2)],[],[]⟩) (left,N,none) (fun p A H=>by
  have H:left (.int .i64 p.1)=false:=H
  rw[j _ (Oi.key (Zy p.1 (BU p A))),BT p A] at H
  cases H) leQ ?_
 rintro⟨J,c,cur⟩ d
 simp only at d
 (repeat'((conv=>whnf);((refine NStep.some (vS [6] rfl rfl (ltN rfl) rfl (fun s hs=>by obtain rfl:=Bh.1 hs;rfl) Oi) ?_;intro _ hz))));(all_goals(conv=>whnf))
 rcases hz with⟨rfl,Q,rfl⟩|⟨key,v,kl,g,e1,L,U,Y,rfl⟩
 ·rw[ZM fun hi p A=>by
   obtain⟨q,hq,rfl⟩:=Cl.1 A
   exact d q hq (Q _) hi]
  (repeat'((conv=>whnf);refine Ee ?_));(all_goals(conv=>whnf))
  all_goals exact zE
 obtain⟨⟨k,u⟩,A,rfl,rfl⟩:=rF U
 obtain rfl:=wQ e1
 obtain⟨i,W,T,a,V,X,rfl⟩:=ZK _ A
 have hI:((k,i):Int×List UInt8)∈RO:=Cl.2 ⟨_,A,rfl⟩
 have b:(id≠[]->i≠id)->∀p∈Zd,(J (.int .i64 p.1)&& !(Lit.int .i64 p.1).sameKey (.int .i64 k))=false->id≠[]->idV p.2≠id:=by
  intro O p F E hid
  rcases C6.1 E with E|E
  ·exact d p F E hid
  ·have e:=WideAt.sameKey_eq (by simpa using E:(Lit.int .i64 p.1).sameKey (.int .i64 k)=true)
   have L:=BT p F
   rw[e,U] at L
   rw[<-Az L]
   exact O hid
 by_cases I:i=id
 ·subst I
  have g1:(i==i)=true:=Da i
  by_cases R:i=[]
  ·subst R
   (repeat'((conv=>whnf);first|refine zP ?_|refine zN ?_|refine Ej ?_|refine Ee ?_|(refine Cs (Va rfl rfl (ltN rfl) rfl) ?_)));(all_goals(conv=>whnf))
   refine⟨(fun l=>J l&& !l.sameKey (.int .i64 k),g,some (.int .i64 k,knV [] W T a V X)),b (fun h=>Bg rfl h),Y,?_⟩
   exact leQ
  ·have g2:(!(i==[]))=true:=by simpa using R
   rw[ZL _ hI R]
   (repeat'((conv=>whnf);first|refine zP ?_|refine zN ?_|refine Ej ?_|refine Ee ?_|(refine Cs (Va rfl rfl (ltN rfl) rfl) ?_)|exact zE))
 ·have g1:(i==id)=false:=by simpa using I
  (repeat'((conv=>whnf);first|refine zP ?_|refine zN ?_|refine Ej ?_|refine Ee ?_|(refine Cs (Va rfl rfl (ltN rfl) rfl) ?_)));(all_goals(conv=>whnf))
  refine⟨(fun l=>J l&& !l.sameKey (.int .i64 k),g,some (.int .i64 k,knV i W T a V X)),b (fun _=>I),Y,?_⟩
  exact leQ
abbrev nlA:AV:= .d (.v (.slice none 0 0))
abbrev eA (c o:Nat):AV:= .agg [iv c,iv o]
def tyC (k:Int) (id:List UInt8) (cr:Bool):List AV:=[iv k,si id,bv cr,nlA,iv 0,nlA,nlA,bv false,nlA,nlA,nlA,bv false,bv false,iv 0,bv false,iv 0,bv false,iv 0,nlA,nlA,nlA,nlA,nlA,nlA,nlA,bv false,bv false,bv false,bv false,iv 0,nlA,nlA,iv 0,iv 0,iv 0,iv 0,iv 0,iv 0]
def tyS (k:Int) (id:List UInt8) (cr:Bool) (i:Nat) (ds:List AV):List AV:=(tyC k id cr).take i++(ds++(tyC k id cr).drop (i+ds.length))
def Ge (c:Nat) (k:Int) (id:List UInt8) (cr:Bool) (i:Nat) (ds:List AV):List AV:=if c=0 then tyS k id cr i ds else tyC k id cr
abbrev coA (a m p:Nat):AV:= .agg [.cl a [] [],.d (.fn m []),.d (.fn p [])]
theorem Ix {b:Bool} {A B:Prop} (h:b=false) (k:B):(bif b then A else B):=by subst h;exact k
theorem ox:PF Tryz.prog 197 3:=by
 refine Pd 6 _ Eg mixed Tryz.func197 rfl Ac rfl rfl rfl rfl fun W fp0 a b tm bx tk k p=> ?_
 (repeat'((conv=>whnf);first|refine Cs (Eb rfl rfl (ltN rfl) rfl) ?_|exact zzW))
theorem BW (b:List UInt8) (p m:Nat) (k:Int) (id:List UInt8) (A:Bool) (i:D) (c o:Nat) (I:(AV.d i).one=true) (E:Jo p tab.mu=false) (F:aC p [.d (By false b)] (.tup [.d i,eA c o])):PC Tryz.prog 456 4 1000 [coA 197 m p,.d (By false b),.ptr 4 0] (tyC k id A) (fun r cs=>r=eA c o/\cs=Ge c k id A 3 [.d i]):=by
 unfold Ge
 by_cases h:c=0
 ·subst h
  rw[Aj rfl]
  refine pcP 1000 26 Tryz.func456 rfl rfl fun H _ _ _ q s z j d a=> ?_
  (repeat'((conv=>whnf);first|refine Ej ?_|(refine Ix E ?_)|refine cY ?_|refine Cs (Eb rfl rfl (ltN rfl) rfl) ?_|refine Al F gvQ ?_|refine Cs (Nc ox rfl rfl (ltN rfl) rfl rfl) ?_|exact z7))
 ·rw[Ai h]
  have g:((c:Int)==0)=false:=by rw[An];omega
  refine pcP 1000 26 Tryz.func456 rfl rfl fun H _ _ _ q s z j d a=> ?_
  (repeat'((conv=>whnf);first|refine zN ?_|(refine Ix E ?_)|refine cY ?_|refine Al F gvQ ?_|exact z7))
theorem oy:PF Tryz.prog 198 4:=by
 refine Pd 6 _ Eg mixed Tryz.func198 rfl Ac rfl rfl rfl rfl fun W fp0 a b tm bx tk k p=> ?_
 (repeat'((conv=>whnf);first|refine Cs (Eb rfl rfl (ltN rfl) rfl) ?_|exact zzW))
theorem RP (b:List UInt8) (p m:Nat) (k:Int) (id:List UInt8) (A:Bool) (i:D) (c o:Nat) (I:(AV.d i).one=true) (E:Jo p tab.mu=false) (F:aC p [.d (By false b)] (.tup [.d i,eA c o])):PC Tryz.prog 468 4 1000 [coA 198 m p,.d (By false b),.ptr 4 0] (tyC k id A) (fun r cs=>r=eA c o/\cs=Ge c k id A 4 [.d i]):=by
 unfold Ge
 by_cases h:c=0
 ·subst h
  rw[Aj rfl]
  refine pcP 1000 26 Tryz.func468 rfl rfl fun H _ _ _ q s z j d a=> ?_
  (repeat'((conv=>whnf);first|refine Ej ?_|(refine Ix E ?_)|refine cY ?_|refine Cs (Eb rfl rfl (ltN rfl) rfl) ?_|refine Al F gvQ ?_|refine Cs (Nc oy rfl rfl (ltN rfl) rfl rfl) ?_|exact z7))
 ·rw[Ai h]
  have g:((c:Int)==0)=false:=by rw[An];omega
  refine pcP 1000 26 Tryz.func468 rfl rfl fun H _ _ _ q s z j d a=> ?_
  (repeat'((conv=>whnf);first|refine zN ?_|(refine Ix E ?_)|refine cY ?_|refine Al F gvQ ?_|exact z7))
theorem pa:PF Tryz.prog 199 6:=by
 refine Pd 6 _ Eg mixed Tryz.func199 rfl Ac rfl rfl rfl rfl fun W fp0 a b tm bx tk k p=> ?_
 (repeat'((conv=>whnf);first|refine Cs (Eb rfl rfl (ltN rfl) rfl) ?_|exact zzW))
theorem RQ (b:List UInt8) (p m:Nat) (k:Int) (id:List UInt8) (A:Bool) (i:D) (c o:Nat) (I:(AV.d i).one=true) (E:Jo p tab.mu=false) (F:aC p [.d (By false b)] (.tup [.d i,eA c o])):PC Tryz.prog 453 4 1000 [coA 199 m p,.d (By false b),.ptr 4 0] (tyC k id A) (fun r cs=>r=eA c o/\cs=Ge c k id A 6 [.d i]):=by
 unfold Ge
 by_cases h:c=0
 ·subst h
  rw[Aj rfl]
  refine pcP 1000 26 Tryz.func453 rfl rfl fun H _ _ _ q s z j d a=> ?_
  (repeat'((conv=>whnf);first|refine Ej ?_|(refine Ix E ?_)|refine cY ?_|refine Cs (Eb rfl rfl (ltN rfl) rfl) ?_|refine Al F gvQ ?_|refine Cs (Nc pa rfl rfl (ltN rfl) rfl rfl) ?_|exact z7))
 ·rw[Ai h]
  have g:((c:Int)==0)=false:=by rw[An];omega
  refine pcP 1000 26 Tryz.func453 rfl rfl fun H _ _ _ q s z j d a=> ?_
  (repeat'((conv=>whnf);first|refine zN ?_|(refine Ix E ?_)|refine cY ?_|refine Al F gvQ ?_|exact z7))
theorem pc:PF Tryz.prog 204 22:=by
 refine Pd 6 _ Eg mixed Tryz.func204 rfl Ac rfl rfl rfl rfl fun W fp0 a b tm bx tk k p=> ?_
 (repeat'((conv=>whnf);first|refine Cs (Eb rfl rfl (ltN rfl) rfl) ?_|exact zzW))
theorem bw (b:List UInt8) (p m:Nat) (k:Int) (id:List UInt8) (A:Bool) (i:D) (c o:Nat) (I:(AV.d i).one=true) (E:Jo p tab.mu=false) (F:aC p [.d (By false b)] (.tup [.d i,eA c o])):PC Tryz.prog 459 4 1000 [coA 204 m p,.d (By false b),.ptr 4 0] (tyC k id A) (fun r cs=>r=eA c o/\cs=Ge c k id A 22 [.d i]):=by
 unfold Ge
 by_cases h:c=0
 ·subst h
  rw[Aj rfl]
  refine pcP 1000 26 Tryz.func459 rfl rfl fun H _ _ _ q s z j d a=> ?_
  (repeat'((conv=>whnf);first|refine Ej ?_|(refine Ix E ?_)|refine cY ?_|refine Cs (Eb rfl rfl (ltN rfl) rfl) ?_|refine Al F gvQ ?_|refine Cs (Nc pc rfl rfl (ltN rfl) rfl rfl) ?_|exact z7))
 ·rw[Ai h]
  have g:((c:Int)==0)=false:=by rw[An];omega
  refine pcP 1000 26 Tryz.func459 rfl rfl fun H _ _ _ q s z j d a=> ?_
  (repeat'((conv=>whnf);first|refine zN ?_|(refine Ix E ?_)|refine cY ?_|refine Al F gvQ ?_|exact z7))
theorem pd:PF Tryz.prog 207 30:=by
 refine Pd 6 _ Eg mixed Tryz.func207 rfl Ac rfl rfl rfl rfl fun W fp0 a b tm bx tk k p=> ?_
 (repeat'((conv=>whnf);first|refine Cs (Eb rfl rfl (ltN rfl) rfl) ?_|exact zzW))
theorem bz (b:List UInt8) (p m:Nat) (k:Int) (id:List UInt8) (A:Bool) (i:D) (c o:Nat) (I:(AV.d i).one=true) (E:Jo p tab.mu=false) (F:aC p [.d (By false b)] (.tup [.d i,eA c o])):PC Tryz.prog 462 4 1000 [coA 207 m p,.d (By false b),.ptr 4 0] (tyC k id A) (fun r cs=>r=eA c o/\cs=Ge c k id A 30 [.d i]):=by
 unfold Ge
 by_cases h:c=0
 ·subst h
  rw[Aj rfl]
  refine pcP 1000 26 Tryz.func462 rfl rfl fun H _ _ _ q s z j d a=> ?_
  (repeat'((conv=>whnf);first|refine Ej ?_|(refine Ix E ?_)|refine cY ?_|refine Cs (Eb rfl rfl (ltN rfl) rfl) ?_|refine Al F gvQ ?_|refine Cs (Nc pd rfl rfl (ltN rfl) rfl rfl) ?_|exact z7))
 ·rw[Ai h]
  have g:((c:Int)==0)=false:=by rw[An];omega
  refine pcP 1000 26 Tryz.func462 rfl rfl fun H _ _ _ q s z j d a=> ?_
  (repeat'((conv=>whnf);first|refine zN ?_|(refine Ix E ?_)|refine cY ?_|refine Al F gvQ ?_|exact z7))
theorem pf:PF Tryz.prog 212 31:=by
 refine Pd 6 _ Eg mixed Tryz.func212 rfl Ac rfl rfl rfl rfl fun W fp0 a b tm bx tk k p=> ?_
 (repeat'((conv=>whnf);first|refine Cs (Eb rfl rfl (ltN rfl) rfl) ?_|exact zzW))
theorem lr (b:List UInt8) (p m:Nat) (k:Int) (id:List UInt8) (A:Bool) (i:D) (c o:Nat) (I:(AV.d i).one=true) (E:Jo p tab.mu=false) (F:aC p [.d (By false b)] (.tup [.d i,eA c o])):PC Tryz.prog 465 4 1000 [coA 212 m p,.d (By false b),.ptr 4 0] (tyC k id A) (fun r cs=>r=eA c o/\cs=Ge c k id A 31 [.d i]):=by
 unfold Ge
 by_cases h:c=0
 ·subst h
  rw[Aj rfl]
  refine pcP 1000 26 Tryz.func465 rfl rfl fun H _ _ _ q s z j d a=> ?_
  (repeat'((conv=>whnf);first|refine Ej ?_|(refine Ix E ?_)|refine cY ?_|refine Cs (Eb rfl rfl (ltN rfl) rfl) ?_|refine Al F gvQ ?_|refine Cs (Nc pf rfl rfl (ltN rfl) rfl rfl) ?_|exact z7))
 ·rw[Ai h]
  have g:((c:Int)==0)=false:=by rw[An];omega
  refine pcP 1000 26 Tryz.func465 rfl rfl fun H _ _ _ q s z j d a=> ?_
  (repeat'((conv=>whnf);first|refine zN ?_|(refine Ix E ?_)|refine cY ?_|refine Al F gvQ ?_|exact z7))
theorem pg:PF Tryz.prog 219 11:=by
 refine Pd 6 _ Eg mixed Tryz.func219 rfl Ac rfl rfl rfl rfl fun W fp0 a b tm bx tk k p=> ?_
 (repeat'((conv=>whnf);first|refine Cs (Eb rfl rfl (ltN rfl) rfl) ?_|exact zzW))
theorem ls (b:List UInt8) (p m:Nat) (k:Int) (id:List UInt8) (H:Bool) (A d i:D) (c o:Nat) (O:(AV.d A).one=true) (N:(AV.d d).one=true) (L:(AV.d i).one=true) (I:Jo p tab.mu=false) (F:aC p [.d (By false b)] (.tup [.agg [.d A,.d d,.d i],eA c o])):PC Tryz.prog 471 4 1000 [coA 219 m p,.d (By false b),.ptr 4 0] (tyC k id H) (fun r cs=>r=eA c o/\cs=Ge c k id H 11 [.d A,.d d,.d i]):=by
 unfold Ge
 by_cases h:c=0
 ·subst h
  rw[Aj rfl]
  refine pcP 1000 26 Tryz.func471 rfl rfl fun J _ _ _ E s z q j a=> ?_
  (repeat'((conv=>whnf);first|refine Ej ?_|(refine Ix I ?_)|refine cY ?_|refine NLa.mk ⟨_,Hk rfl rfl (ltN rfl) rfl,?_⟩|refine Al F gvQ ?_|refine NLa.mk ⟨_,iI pg rfl rfl (ltN rfl) rfl rfl,?_⟩|refine zF ?_|exact z7))
 ·rw[Ai h]
  have g:((c:Int)==0)=false:=by rw[An];omega
  refine pcP 1000 26 Tryz.func471 rfl rfl fun J _ _ _ E s z q j a=> ?_
  (repeat'((conv=>whnf);first|refine zN ?_|(refine Ix I ?_)|refine cY ?_|refine Al F gvQ ?_|exact z7))
theorem ph:PF Tryz.prog 224 32:=by
 refine Pd 6 _ Eg mixed Tryz.func224 rfl Ac rfl rfl rfl rfl fun W fp0 a b tm bx tk k p=> ?_
 (repeat'((conv=>whnf);first|refine Cs (Eb rfl rfl (ltN rfl) rfl) ?_|exact zzW))
theorem lu (b:List UInt8) (p m:Nat) (k:Int) (id:List UInt8) (L:Bool) (E d i H I s:D) (c o:Nat) (V:(AV.d E).one=true) (U:(AV.d d).one=true) (R:(AV.d i).one=true) (X:(AV.d H).one=true) (Q:(AV.d I).one=true) (W:(AV.d s).one=true) (N:Jo p tab.mu=false) (J:aC p [.d (By false b)] (.tup [.agg [.d E,.d d,.d i,.d H,.d I,.d s],eA c o])):PC Tryz.prog 474 4 1000 [coA 224 m p,.d (By false b),.ptr 4 0] (tyC k id L) (fun r cs=>r=eA c o/\cs=Ge c k id L 32 [.d E,.d d,.d i,.d H,.d I,.d s]):=by
 unfold Ge
 by_cases h:c=0
 ·subst h
  rw[Aj rfl]
  refine pcP 1000 26 Tryz.func474 rfl rfl fun O _ _ _ F z A q j a=> ?_
  (repeat'((conv=>whnf);first|refine Ej ?_|(refine Ix N ?_)|refine cY ?_|refine NLa.mk ⟨_,Hk rfl rfl (ltN rfl) rfl,?_⟩|refine Al J gvQ ?_|refine NLa.mk ⟨_,iI ph rfl rfl (ltN rfl) rfl rfl,?_⟩|refine zF ?_|exact z7))
 ·rw[Ai h]
  have g:((c:Int)==0)=false:=by rw[An];omega
  refine pcP 1000 26 Tryz.func474 rfl rfl fun O _ _ _ F z A q j a=> ?_
  (repeat'((conv=>whnf);first|refine zN ?_|(refine Ix N ?_)|refine cY ?_|refine Al J gvQ ?_|exact z7))
theorem pi:PF Tryz.prog 227 23:=by
 refine Pd 6 _ Eg mixed Tryz.func227 rfl Ac rfl rfl rfl rfl fun W fp0 a b tm bx tk k p=> ?_
 (repeat'((conv=>whnf);first|refine Cs (Eb rfl rfl (ltN rfl) rfl) ?_|exact zzW))
theorem lv (b:List UInt8) (p m:Nat) (k:Int) (id:List UInt8) (N:Bool) (F d i I J s A:D) (c o:Nat) (X:(AV.d F).one=true) (W:(AV.d d).one=true) (V:(AV.d i).one=true) (Z:(AV.d I).one=true) (U:(AV.d J).one=true) (Y:(AV.d s).one=true) (R:(AV.d A).one=true) (O:Jo p tab.mu=false) (L:aC p [.d (By false b)] (.tup [.agg [.d F,.d d,.d i,.d I,.d J,.d s,.d A],eA c o])):PC Tryz.prog 477 4 1000 [coA 227 m p,.d (By false b),.ptr 4 0] (tyC k id N) (fun r cs=>r=eA c o/\cs=Ge c k id N 23 [.d F,.d d,.d i,.d I,.d J,.d s,.d A]):=by
 unfold Ge
 by_cases h:c=0
 ·subst h
  rw[Aj rfl]
  refine pcP 1000 26 Tryz.func477 rfl rfl fun Q _ _ _ H z E q j a=> ?_
  (repeat'((conv=>whnf);first|refine Ej ?_|(refine Ix O ?_)|refine cY ?_|refine NLa.mk ⟨_,Hk rfl rfl (ltN rfl) rfl,?_⟩|refine Al L gvQ ?_|refine NLa.mk ⟨_,iI pi rfl rfl (ltN rfl) rfl rfl,?_⟩|refine zF ?_|exact z7))
 ·rw[Ai h]
  have g:((c:Int)==0)=false:=by rw[An];omega
  refine pcP 1000 26 Tryz.func477 rfl rfl fun Q _ _ _ H z E q j a=> ?_
  (repeat'((conv=>whnf);first|refine zN ?_|(refine Ix O ?_)|refine cY ?_|refine Al L gvQ ?_|exact z7))
theorem pj:PF Tryz.prog 230 20:=by
 refine Pd 6 _ Eg mixed Tryz.func230 rfl Ac rfl rfl rfl rfl fun W fp0 a b tm bx tk k p=> ?_
 (repeat'((conv=>whnf);first|refine Cs (Eb rfl rfl (ltN rfl) rfl) ?_|exact zzW))
theorem lw (b:List UInt8) (p m:Nat) (k:Int) (id:List UInt8) (F:Bool) (z d:D) (c o:Nat) (L:(AV.d z).one=true) (J:(AV.d d).one=true) (H:Jo p tab.mu=false) (E:aC p [.d (By false b)] (.tup [.agg [.d z,.d d],eA c o])):PC Tryz.prog 480 4 1000 [coA 230 m p,.d (By false b),.ptr 4 0] (tyC k id F) (fun r cs=>r=eA c o/\cs=Ge c k id F 20 [.d z,.d d]):=by
 unfold Ge
 by_cases h:c=0
 ·subst h
  rw[Aj rfl]
  refine pcP 1000 26 Tryz.func480 rfl rfl fun I _ _ _ A q s j i a=> ?_
  (repeat'((conv=>whnf);first|refine Ej ?_|(refine Ix H ?_)|refine cY ?_|refine NLa.mk ⟨_,Hk rfl rfl (ltN rfl) rfl,?_⟩|refine Al E gvQ ?_|refine NLa.mk ⟨_,iI pj rfl rfl (ltN rfl) rfl rfl,?_⟩|refine zF ?_|exact z7))
 ·rw[Ai h]
  have g:((c:Int)==0)=false:=by rw[An];omega
  refine pcP 1000 26 Tryz.func480 rfl rfl fun I _ _ _ A q s j i a=> ?_
  (repeat'((conv=>whnf);first|refine zN ?_|(refine Ix H ?_)|refine cY ?_|refine Al E gvQ ?_|exact z7))
theorem pm:PF Tryz.prog 233 18:=by
 refine Pd 6 _ Eg mixed Tryz.func233 rfl Ac rfl rfl rfl rfl fun W fp0 a b tm bx tk k p=> ?_
 (repeat'((conv=>whnf);first|refine Cs (Eb rfl rfl (ltN rfl) rfl) ?_|exact zzW))
theorem ru (b:List UInt8) (p m:Nat) (k:Int) (id:List UInt8) (A:Bool) (i:D) (c o:Nat) (I:(AV.d i).one=true) (E:Jo p tab.mu=false) (F:aC p [.d (By false b)] (.tup [.d i,eA c o])):PC Tryz.prog 483 4 1000 [coA 233 m p,.d (By false b),.ptr 4 0] (tyC k id A) (fun r cs=>r=eA c o/\cs=Ge c k id A 18 [.d i]):=by
 unfold Ge
 by_cases h:c=0
 ·subst h
  rw[Aj rfl]
  refine pcP 1000 26 Tryz.func483 rfl rfl fun H _ _ _ q s z j d a=> ?_
  (repeat'((conv=>whnf);first|refine Ej ?_|(refine Ix E ?_)|refine cY ?_|refine Cs (Eb rfl rfl (ltN rfl) rfl) ?_|refine Al F gvQ ?_|refine Cs (Nc pm rfl rfl (ltN rfl) rfl rfl) ?_|exact z7))
 ·rw[Ai h]
  have g:((c:Int)==0)=false:=by rw[An];omega
  refine pcP 1000 26 Tryz.func483 rfl rfl fun H _ _ _ q s z j d a=> ?_
  (repeat'((conv=>whnf);first|refine zN ?_|(refine Ix E ?_)|refine cY ?_|refine Al F gvQ ?_|exact z7))
theorem pn:PF Tryz.prog 236 19:=by
 refine Pd 6 _ Eg mixed Tryz.func236 rfl Ac rfl rfl rfl rfl fun W fp0 a b tm bx tk k p=> ?_
 (repeat'((conv=>whnf);first|refine Cs (Eb rfl rfl (ltN rfl) rfl) ?_|exact zzW))
theorem m0 (b:List UInt8) (p m:Nat) (k:Int) (id:List UInt8) (A:Bool) (i:D) (c o:Nat) (I:(AV.d i).one=true) (E:Jo p tab.mu=false) (F:aC p [.d (By false b)] (.tup [.d i,eA c o])):PC Tryz.prog 486 4 1000 [coA 236 m p,.d (By false b),.ptr 4 0] (tyC k id A) (fun r cs=>r=eA c o/\cs=Ge c k id A 19 [.d i]):=by
 unfold Ge
 by_cases h:c=0
 ·subst h
  rw[Aj rfl]
  refine pcP 1000 26 Tryz.func486 rfl rfl fun H _ _ _ q s z j d a=> ?_
  (repeat'((conv=>whnf);first|refine Ej ?_|(refine Ix E ?_)|refine cY ?_|refine Cs (Eb rfl rfl (ltN rfl) rfl) ?_|refine Al F gvQ ?_|refine Cs (Nc pn rfl rfl (ltN rfl) rfl rfl) ?_|exact z7))
 ·rw[Ai h]
  have g:((c:Int)==0)=false:=by rw[An];omega
  refine pcP 1000 26 Tryz.func486 rfl rfl fun H _ _ _ q s z j d a=> ?_
  (repeat'((conv=>whnf);first|refine zN ?_|(refine Ix E ?_)|refine cY ?_|refine Al F gvQ ?_|exact z7))
theorem po:PF Tryz.prog 239 7:=by
 refine Pd 6 _ Eg mixed Tryz.func239 rfl Ac rfl rfl rfl rfl fun W fp0 a b tm bx tk k p=> ?_
 (repeat'((conv=>whnf);first|refine Cs (Eb rfl rfl (ltN rfl) rfl) ?_|exact zzW))
theorem m6 (b:List UInt8) (p m:Nat) (k:Int) (id:List UInt8) (I:Bool) (A d i F:D) (c o:Nat) (Q:(AV.d A).one=true) (O:(AV.d d).one=true) (N:(AV.d i).one=true) (R:(AV.d F).one=true) (J:Jo p tab.mu=false) (H:aC p [.d (By false b)] (.tup [.agg [.d A,.d d,.d i,.d F],eA c o])):PC Tryz.prog 489 4 1000 [coA 239 m p,.d (By false b),.ptr 4 0] (tyC k id I) (fun r cs=>r=eA c o/\cs=Ge c k id I 7 [.d A,.d d,.d i,.d F]):=by
 unfold Ge
 by_cases h:c=0
 ·subst h
  rw[Aj rfl]
  refine pcP 1000 26 Tryz.func489 rfl rfl fun L _ _ _ E s z q j a=> ?_
  (repeat'((conv=>whnf);first|refine Ej ?_|(refine Ix J ?_)|refine cY ?_|refine NLa.mk ⟨_,Hk rfl rfl (ltN rfl) rfl,?_⟩|refine Al H gvQ ?_|refine NLa.mk ⟨_,iI po rfl rfl (ltN rfl) rfl rfl,?_⟩|refine zF ?_|exact z7))
 ·rw[Ai h]
  have g:((c:Int)==0)=false:=by rw[An];omega
  refine pcP 1000 26 Tryz.func489 rfl rfl fun L _ _ _ E s z q j a=> ?_
  (repeat'((conv=>whnf);first|refine zN ?_|(refine Ix J ?_)|refine cY ?_|refine Al H gvQ ?_|exact z7))
theorem pp:PF Tryz.prog 242 14:=by
 refine Pd 6 _ Eg mixed Tryz.func242 rfl Ac rfl rfl rfl rfl fun W fp0 a b tm bx tk k p=> ?_
 (repeat'((conv=>whnf);first|refine Cs (Eb rfl rfl (ltN rfl) rfl) ?_|exact zzW))
theorem m7 (b:List UInt8) (p m:Nat) (k:Int) (id:List UInt8) (I:Bool) (A d i F:D) (c o:Nat) (Q:(AV.d A).one=true) (O:(AV.d d).one=true) (N:(AV.d i).one=true) (R:(AV.d F).one=true) (J:Jo p tab.mu=false) (H:aC p [.d (By false b)] (.tup [.agg [.d A,.d d,.d i,.d F],eA c o])):PC Tryz.prog 492 4 1000 [coA 242 m p,.d (By false b),.ptr 4 0] (tyC k id I) (fun r cs=>r=eA c o/\cs=Ge c k id I 14 [.d A,.d d,.d i,.d F]):=by
 unfold Ge
 by_cases h:c=0
 ·subst h
  rw[Aj rfl]
  refine pcP 1000 26 Tryz.func492 rfl rfl fun L _ _ _ E s z q j a=> ?_
  (repeat'((conv=>whnf);first|refine Ej ?_|(refine Ix J ?_)|refine cY ?_|refine NLa.mk ⟨_,Hk rfl rfl (ltN rfl) rfl,?_⟩|refine Al H gvQ ?_|refine NLa.mk ⟨_,iI pp rfl rfl (ltN rfl) rfl rfl,?_⟩|refine zF ?_|exact z7))
 ·rw[Ai h]
  have g:((c:Int)==0)=false:=by rw[An];omega
  refine pcP 1000 26 Tryz.func492 rfl rfl fun L _ _ _ E s z q j a=> ?_
  (repeat'((conv=>whnf);first|refine zN ?_|(refine Ix J ?_)|refine cY ?_|refine Al H gvQ ?_|exact z7))
theorem pq:PF Tryz.prog 245 5:=by
 refine Pd 6 _ Eg mixed Tryz.func245 rfl Ac rfl rfl rfl rfl fun W fp0 a b tm bx tk k p=> ?_
 (repeat'((conv=>whnf);first|refine Cs (Eb rfl rfl (ltN rfl) rfl) ?_|exact zzW))
theorem m8 (b:List UInt8) (p m:Nat) (k:Int) (id:List UInt8) (A:Bool) (i:D) (c o:Nat) (I:(AV.d i).one=true) (E:Jo p tab.mu=false) (F:aC p [.d (By false b)] (.tup [.d i,eA c o])):PC Tryz.prog 495 4 1000 [coA 245 m p,.d (By false b),.ptr 4 0] (tyC k id A) (fun r cs=>r=eA c o/\cs=Ge c k id A 5 [.d i]):=by
 unfold Ge
 by_cases h:c=0
 ·subst h
  rw[Aj rfl]
  refine pcP 1000 26 Tryz.func495 rfl rfl fun H _ _ _ q s z j d a=> ?_
  (repeat'((conv=>whnf);first|refine Ej ?_|(refine Ix E ?_)|refine cY ?_|refine Cs (Eb rfl rfl (ltN rfl) rfl) ?_|refine Al F gvQ ?_|refine Cs (Nc pq rfl rfl (ltN rfl) rfl rfl) ?_|exact z7))
 ·rw[Ai h]
  have g:((c:Int)==0)=false:=by rw[An];omega
  refine pcP 1000 26 Tryz.func495 rfl rfl fun H _ _ _ q s z j d a=> ?_
  (repeat'((conv=>whnf);first|refine zN ?_|(refine Ix E ?_)|refine cY ?_|refine Al F gvQ ?_|exact z7))
def m9 (P:Program) (k:TypeId) (n:Nat) (M:Lit->Option Value):(Nat->Nat->Prop)->World->Value->Prop:=fun _ w v=>∃m,v= .map (some m)/\pY P k w m n M
abbrev ic (P:Program) (k:TypeId) (n:Nat) (M:Lit->Option Value):AV:= .sem (m9 P k n M)
section
variable {P:Program} {C:Cx} {o:Oper} {σ:AS} {t:Nat} {T k e:TypeId} {x y:Operand} {n:Nat} {M:Lit->Option Value} {l:Lit} {key:Value}
theorem dZ {z:Value} (q:o.op= .lookup T x y false) (E:o.dst=some t) (r:t<C.N) (s:σ.eval x=some (ic P k n M)) (I:σ.eval y=some (.d (.v key)))
 (J:P.underlying T=some (.map k e)) (K:Maps.Keyed P k) (g:keyOf P k key=some l) (N:∀w,(zeroValue e).run P w= .ok z w) (H:∀B fp w bm gt,RA B fp w bm gt u ((M l).getD z)):Fp P C o σ (σ.put t u):=
 E1 E r fun a w bm gt fp i=>by
  have h:=i.eval s
  generalize F:a.eval x=A at h
  cases h with
  |sem _ h=>
   obtain⟨m,rfl,D,p,L⟩:=h bm.z w (fun _ _ h=>h) (fun _ _ _=>rfl) (NC.refl w)
   have d:=(i.eval I).val
   obtain⟨v,ps,b,c⟩:=p.lookup K J (N w) (zd:= .held z) (zp:=[]) rfl g
   rw[(L l (.held z) (K.key g)).2] at c
   refine⟨v,?_,?_⟩
   ·simp only[execOp,q,F,d,b,Au,Bs,A6]
   ·have:=H C.W.heap.size fp w bm gt
    cases j:M l with
    |none=>rw[j] at c this;cases c;exact this
    |some A=>rw[j] at c this;cases c;exact this
end
theorem iJ:aC 180 [] (ic Tryz.prog 3 24 lM):=
 ⟨Vh.1,fun w fp0 b vs q a j d=>(Vh.2 w fp0 b vs q a j d).mono fun _ _ ⟨r,v,i,⟨B,m,p⟩,k3,k4,fp,gt,z,k5,k6,k7,k8⟩=>by
   subst p
   refine⟨_,v,i,rfl,k3,rfl,fp,gt,z,k5,?_,(fun _ _ _ h=>by cases h),k8⟩
   obtain⟨rfl,-,g⟩:=gY k6
   exact .sem rfl fun _ _ _ _ c=>⟨m,rfl,g.nc c⟩⟩
theorem ca (a m p:Nat):RA B fp w bm gt (coA a m p) (coV a m p):=
 .agg [_,_,_] rfl fun i u v b c=>by
  match i with
  |0=>simp at b c;subst b c;exact .cl [] [] rfl rfl (fun _ _ _ h=>by simp at h) (fun _ _ _ h=>by simp at h)
  |1=>simp at b c;subst b c;exact .d (.fn [] rfl (fun _ _ _ h=>by simp at h))
  |2=>simp at b c;subst b c;exact .d (.fn [] rfl (fun _ _ _ h=>by simp at h))
theorem ma (g d:List UInt8) (T a m p:Nat):RA B fp w bm gt (.agg [si g,si d,.d (.v (.iface T (coV a m p)))]) (knV g d T a m p):=
 .agg [_,_,_] rfl fun i u v b c=>by
  match i with
  |0=>simp at b c;subst b c;exact .d (.v _)
  |1=>simp at b c;subst b c;exact .d (.v _)
  |2=>simp at b c;subst b c;exact .d (.v _)
def tD:AV->D
 | .d x=>x
 |_=> .v (.bool false)
theorem S5 (n:Nat):∀l:List D,J8 n (l.map AV.d)=true
 |[]=>rfl
 |_::r=>by
  show(AV.und n (.d _)&&J8 n (r.map AV.d))=true
  rw[S5 n r];rfl
def ie (k:Int) (id:List UInt8) (cr:Bool):List AV:=tyC k (if k=0 then id else []) cr
def cL (e:Nat->D):List AV:=[.d (e 0),.d (e 1),.d (e 2),.d (e 3),.d (e 4),.d (e 5),.d (e 6),.d (e 7),.d (e 8),.d (e 9),.d (e 10),.d (e 11),.d (e 12),.d (e 13),.d (e 14),.d (e 15),.d (e 16),.d (e 17),.d (e 18),.d (e 19),.d (e 20),.d (e 21),.d (e 22),.d (e 23),.d (e 24),.d (e 25),.d (e 26),.d (e 27),.d (e 28),.d (e 29),.d (e 30),.d (e 31),.d (e 32),.d (e 33),.d (e 34),.d (e 35),.d (e 36),.d (e 37)]
def dcS (id val:List UInt8) (cr:Bool) (k:Int) (ki kn:List UInt8) (T a w p c o:Nat) (Z C0 C1:List AV) (m:Nat):AS:=⟨pk m 0 (23,ic Tryz.prog 3 24 lM) (pk m 1 (24,.ptr 4 0) (pk m 2 (25,iv k) (pk m 3 (26,.agg [si ki,si kn,.d (.v (.iface T (coV a w p)))]) (pk m 4 (27,.d (.v (.iface T (coV a w p)))) (pk m 5 (28,.ptr 1 2) (pk m 6 (29,.d (By false val)) (pk m 7 (30,eA c o) (pk m 8 (5,.ptr 5 0) [(1,.ptr 1 0),(2,.ptr 2 0),(3,.ptr 3 0),(4,.ptr 4 0)])))))))),
 (bif m.testBit 9 then(5,[iv c,iv o])::[(1,[si id,bv cr,.d (By false val)]),(2,Z),(3,[iv 0,iv 0]),(4,bif m.testBit 7 then C1 else C0)] else pk m 8 (5,[iv 0,iv 0]) [(1,[si id,bv cr,.d (By false val)]),(2,Z),(3,[iv 0,iv 0]),(4,bif m.testBit 7 then C1 else C0)]),[]⟩
theorem RR {p:Prop} (h:p:=by first|rfl|(simp only[D8,AV.ren,AV.give,D.un,Ef,D7,D6,Ap,Am,Ak,Ho];first|done|rfl)):p:=h
theorem ig (id val:List UInt8) (g:Bool) (I L:List UInt8) (T a w p f c o:Nat) (e:Nat->D) (he:∀i,(AV.d (e i)).one=true) (hid:id.length<=4000000) (X:H7 id=true) (O:lM (.int .i64 (eZ id))=some (knV I L T a w p))
 (hM:∀J,(method (Tryz.prog.types.size+Made.depth) T (coV a w p) "cretula/dispatch.decode").run Tryz.prog J= .ok (f,coV a w p) J) (z:PC Tryz.prog f 4 1000 [coA a w p,.d (By false val),.ptr 4 0] (ie (eZ id) id g) (fun r cs=>r=eA c o/\cs=cL e)):
 aC 154 [.agg [si id,bv g,.d (By false val)]] (.tup [.agg (if c=0 then cL e else tyC 0 [] false),if c=0 then eA 0 0 else eA c o]):=by
 have U:=Yc ⟨id,g,val⟩ hid
 rw[X] at U
 have V:=IQ id Aa
 obtain⟨q,W,F,-⟩:=rF O
 have E:=BU q W
 have H:eZ id=q.1:=(Lit.int.inj F).2
 rw[<-H] at E
 clear F H W X
 generalize eZ id=k at*
 have hL:∀B fp J bm gt,RA B fp J bm gt (.agg [si I,si L,.d (.v (.iface T (coV a w p)))]) ((lM (.int .i64 k)).getD (.agg #[.string ⟨#[]⟩,.string ⟨#[]⟩,.nilIface])):=fun B fp J bm gt=>by rw[O];exact ma I L T a w p
 clear O
 unfold ie at z
 by_cases N:k=0
 ·rw[Aj N] at z
  have g0:(k==0)=true:=by rw[N];rfl
  refine Fl 38 _ (tKok [1000006]) mixed Tryz.func154 rfl Ac rfl rfl rfl rfl fun _ _ _=> ?_
  (repeat'((conv=>whnf);first|refine zP ?_|refine zN ?_|refine Ej ?_|refine Ee ?_|refine Al U RR ?_|refine Al V rfl ?_|refine zF ?_));(all_goals(conv=>whnf))
  obtain⟨Z,m⟩:∃Z:List D,Z.map AV.d=tyC 0 [] false:=⟨(tyC 0 [] false).map tD,rfl⟩
  obtain⟨Y,s⟩:∃Y:List D,Y.map AV.d=cL e:=⟨(cL e).map tD,rfl⟩
  obtain⟨R,A⟩:∃R:List D,iv k::R.map AV.d=tyC k id g:=⟨((tyC k id g).drop 1).map tD,rfl⟩
  refine Oh (dcS id val g k I L T a w p c o (Z.map AV.d) (iv k::R.map AV.d) (Y.map AV.d)) (tKok [1000006]) mixed (by rw[m,A];exact leQ) (by decide+kernel) Ac ?_ ?_
  rotate_left
  ·rw[m,s]
   by_cases d:c=0
   ·rw[Aj d,Aj d]
    have Q:((c:Int) !=0)=false:=by rw[d];rfl
    (repeat'((conv=>whnf);first|refine zN ?_|(refine dC (by(repeat'(first|exact rfl|exact he _|refine Bb.2 ⟨?_,?_⟩))) ?_)|exact zE))
   ·rw[Ai d,Ai d]
    have Q:((c:Int) !=0)=true:=by rw[Av];omega
    (repeat'((conv=>whnf);first|refine zP ?_|refine zF ?_|exact zE))
  rw[<-A,<-s] at z
  have j:J8 1000 (Z.map AV.d)=true:=S5 _ _
  have h:J8 1000 (iv k::R.map AV.d)=true:=S5 _ (.v (.int .i64 k)::R)
  clear m s A
  (repeat'((conv=>whnf);first|exact trivial|refine A1 ?_ ?_))
  all_goals(try(first|exact rfl|exact trivial|exact Er _|exact Mv _|exact Cv rfl|exact Cz rfl))
  all_goals(repeat'((conv=>whnf);first|(refine dC (by(repeat'(first|exact rfl|exact Sr _ _|refine Bb.2 ⟨?_,?_⟩))) ?_)|refine Al iJ rfl ?_|(refine Cs (dZ rfl rfl (ltN rfl) rfl rfl (Eg.ty rfl).u Oi (Zy k E) (Eg.ty rfl).zero hL) ?_)|((refine iH z rfl rfl rfl rfl rfl hM (fun _ _ _ _ _=>ca a w p) rfl (CF.mk' (b:=by repeat'(first|exact CfB.nil|refine CfB.cons Ah (by first|rfl|exact j|exact h) ?_))) ?_;rintro _ _ ⟨rfl,rfl⟩))));(all_goals(conv=>whnf))
  all_goals(repeat'(first|exact trivial|exact Er _|exact Mv _|refine A1 ?_ ?_|exact rfl|exact Cv rfl|exact Cz rfl))
 ·rw[Ai N] at z
  have g0:(k==0)=false:=by rw[An];exact N
  refine Fl 38 _ (tKok [1000006]) mixed Tryz.func154 rfl Ac rfl rfl rfl rfl fun _ _ _=> ?_
  (repeat'((conv=>whnf);first|refine zP ?_|refine zN ?_|refine Ej ?_|refine Ee ?_|refine Al U RR ?_|refine Al V rfl ?_|refine zF ?_));(all_goals(conv=>whnf))
  obtain⟨Z,m⟩:∃Z:List D,Z.map AV.d=tyC 0 [] false:=⟨(tyC 0 [] false).map tD,rfl⟩
  obtain⟨Y,s⟩:∃Y:List D,Y.map AV.d=cL e:=⟨(cL e).map tD,rfl⟩
  obtain⟨R,A⟩:∃R:List D,iv k::R.map AV.d=tyC k [] g:=⟨((tyC k [] g).drop 1).map tD,rfl⟩
  refine Oh (dcS id val g k I L T a w p c o (Z.map AV.d) (iv k::R.map AV.d) (Y.map AV.d)) (tKok [1000006]) mixed (by rw[m,A];exact leQ) (by decide+kernel) Ac ?_ ?_
  rotate_left
  ·rw[m,s]
   by_cases d:c=0
   ·rw[Aj d,Aj d]
    have Q:((c:Int) !=0)=false:=by rw[d];rfl
    (repeat'((conv=>whnf);first|refine zN ?_|(refine dC (by(repeat'(first|exact rfl|exact he _|refine Bb.2 ⟨?_,?_⟩))) ?_)|exact zE))
   ·rw[Ai d,Ai d]
    have Q:((c:Int) !=0)=true:=by rw[Av];omega
    (repeat'((conv=>whnf);first|refine zP ?_|refine zF ?_|exact zE))
  rw[<-A,<-s] at z
  have j:J8 1000 (Z.map AV.d)=true:=S5 _ _
  have h:J8 1000 (iv k::R.map AV.d)=true:=S5 _ (.v (.int .i64 k)::R)
  clear m s A
  (repeat'((conv=>whnf);first|exact trivial|refine A1 ?_ ?_))
  all_goals(try(first|exact rfl|exact trivial|exact Er _|exact Mv _|exact Cv rfl|exact Cz rfl))
  all_goals(repeat'((conv=>whnf);first|(refine dC (by(repeat'(first|exact rfl|exact Sr _ _|refine Bb.2 ⟨?_,?_⟩))) ?_)|refine Al iJ rfl ?_|(refine Cs (dZ rfl rfl (ltN rfl) rfl rfl (Eg.ty rfl).u Oi (Zy k E) (Eg.ty rfl).zero hL) ?_)|((refine iH z rfl rfl rfl rfl rfl hM (fun _ _ _ _ _=>ca a w p) rfl (CF.mk' (b:=by repeat'(first|exact CfB.nil|refine CfB.cons Ah (by first|rfl|exact j|exact h) ?_))) ?_;rintro _ _ ⟨rfl,rfl⟩))));(all_goals(conv=>whnf))
  all_goals(repeat'(first|exact trivial|exact Er _|exact Mv _|refine A1 ?_ ?_|exact rfl|exact Cv rfl|exact Cz rfl))
end Go.Proofs.YtbedjionhmaafaaGreatDoor
