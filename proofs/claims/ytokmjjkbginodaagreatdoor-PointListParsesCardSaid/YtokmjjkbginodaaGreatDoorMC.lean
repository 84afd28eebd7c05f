/- MC: the texts Inl Vc Vcs Vco Vcn Pk LoopN Arr Types Tab PkW, one behind the other. No condition but what each lemma says. -/
import Derived.Test.YtokmjjkbginodaaGreatDoorMB
set_option maxRecDepth 100000
set_option maxHeartbeats 16000000
namespace Go.Proofs.YtokmjjkbginodaaGreatDoor
open Go.RowKit
def ghM (M:Nat):List (Nat×AV)→List (Nat×AV)
 |[]=>[]
 |(t,u)::r=>(t+M,u)::ghM M r
def Uu (M:Nat):List (Nat×AV)→List (Nat×AV)
 |[]=>[]
 |(t,u)::r=>match Nat.ble M t with
  |true=>(t-M,u)::Uu M r
  |false=>Uu M r
def inM (M:Nat) (us:List AV) (tm:List (Nat×AV)):List (Nat×AV):=G3 0 us++ghM M tm
def inT (us:List AV) (tm:List (Nat×AV)):List (Nat×AV):=inM 1000000 us tm
def nU (l:List (Nat×AV)):List (Nat×AV):=Uu 1000000 l
theorem jY {M t:Nat} {u:AV}:∀{l:List (Nat×AV)},lk t (ghM M l)=some u→M≤t∧lk (t-M) l=some u
 |[],h=>by cases h
 |(s,c)::r,h=>by
  simp only[ghM,lk] at h
  cases hb:Nat.beq (s+M) t with
  |true=>
   rw[hb] at h
   have e:=Nat.eq_of_beq_eq_true hb
   subst e
   refine⟨by omega,?_⟩
   rw[Nat.add_sub_cancel,Bs];exact h
  |false=>
   rw[hb] at h
   obtain⟨h1,h2⟩:=jY (l:=r) h
   refine⟨h1,?_⟩
   rw[Cf _ _ (fun e=> ?_)]
   ·exact h2
   ·subst e
    have:t-M+M=t:=by omega
    rw[this,Nat.beq_refl] at hb;cases hb
theorem jZ {β:Type} {t:Nat} {u:β}:∀{l m:List (Nat×β)},lk t (l++m)=some u→lk t l=some u∨lk t m=some u
 |[],_,h=> .inr h
 |(s,c)::r,m,h=>by
  simp only[List.cons_append,lk] at h
  cases hb:Nat.beq s t with
  |true=>rw[hb] at h;left;simp only[lk,hb];exact h
  |false=>
   rw[hb] at h
   rcases jZ (l:=r) h with h|h
   ·left;simp only[lk,hb];exact h
   ·exact .inr h
theorem Uv {M t:Nat} {u:AV}:∀{l:List (Nat×AV)},lk t (Uu M l)=some u→lk (t+M) l=some u
 |[],h=>by cases h
 |(s,c)::r,h=>by
  simp only[Uu] at h
  cases hb:Nat.ble M s with
  |true=>
   rw[hb] at h
   have hs:=Nat.le_of_ble_eq_true hb
   by_cases e:s-M=t
   ·subst e
    simp only[Bs] at h
    have:s-M+M=s:=by omega
    rw[this,Bs];exact h
   ·simp only[Cf _ _ e] at h
    rw[Cf _ _ (by omega)]
    exact Uv h
  |false=>
   rw[hb] at h
   have hs:s<M:=by
    rcases Nat.lt_or_ge s M with h|h
    ·exact h
    ·rw[Nat.ble_eq_true_of_le h] at hb;cases hb
   rw[Cf _ _ (by omega)]
   exact Uv h
theorem Cx.val_ge {C:Cx} {a:Act} {t:Nat} (h:1000000≤t):C.val a t=C.gh t:=by
 have hb:Nat.blt t 1000000=false:=by
  cases hb:Nat.blt t 1000000 with
  |false=>rfl
  |true=>have:=Xk hb;omega
 unfold Cx.val
 rw[hb];rfl
def Cx.inn (M:Nat) (C:Cx) (N:Nat) (a:Act):Cx:=⟨C.W,C.fp0,N,fun t=>C.val a (t-M),C.z0⟩
theorem GG.inn {M:Nat} (hM:M=1000000) {C:Cx} {bm:BM} {gt:Nat→Value} {fp:Nat→Nat→Prop} {σ:AS} {a:Act} {w:World} (h:GG C bm gt fp σ a w) {us:List AV} {vs:List Value} {N:Nat} (hN:N≤1000000) (hl:vs.length=us.length) (hlN:us.length≤N)
 (hr:∀(i:Nat) u v,us[i]?=some u→vs[i]?=some v→RA C.W.heap.size fp w bm gt u v):
 GG (Cx.inn M C N a) bm gt fp ⟨inM M us σ.tm,σ.bx,σ.tk⟩ {tmps:=vs.toArray++Array.replicate (N-vs.toArray.size) undef,defers:=[]} w:=by
 refine{sz:= ?_,nN:=hN,gd:=h.gd,za:=h.za,zb:=h.zb,zf:=h.zf,ztk:=h.ztk,df:=rfl,tm:=fun t u hu=> ?_,bx:=h.bx,bxi:=h.bxi,tk:=h.tk,tki:=h.tki,tkb:=h.tkb,fpb:=h.fpb,fp0:=h.fp0,fpB:=h.fpB,bel:=h.bel}
 ·show _=N
  simp;omega
 ·rcases jZ hu with hu|hu
  ·obtain⟨_,h2⟩:=Rl us 0 hu
   rw[Nat.sub_zero] at h2
   have hlt:=(Aw.1 h2).1
   have hlv:t<vs.length:=by omega
   refine⟨vs[t],?_,hr t u _ h2 (Am hlv)⟩
   rw[Cx.val_lt (by omega),Array.getElem?_append_left (by simpa using hlv)]
   simp[hlv]
  ·obtain⟨h1,h2⟩:=jY hu
   obtain⟨v,k1,k2⟩:=h.tm _ u h2
   exact⟨v,(Cx.val_ge (by omega)).trans k1,k2⟩
theorem GG.out {M:Nat} (hM:M=1000000) {C:Cx} {a:Act} {N:Nat} {bm:BM} {gt:Nat→Value} {fp:Nat→Nat→Prop} {σ:AS} {a':Act} {w:World} (hsz:a.tmps.size=C.N) (hN:C.N≤1000000) (hdf:a.defers=[]) (h:GG (Cx.inn M C N a) bm gt fp σ a' w):GG C bm gt fp ⟨Uu M σ.tm,σ.bx,σ.tk⟩ a w:=by
 refine{sz:=hsz,nN:=hN,gd:=h.gd,za:=h.za,zb:=h.zb,zf:=h.zf,ztk:=h.ztk,df:=hdf,tm:=fun t u hu=> ?_,bx:=h.bx,bxi:=h.bxi,tk:=h.tk,tki:=h.tki,tkb:=h.tkb,fpb:=h.fpb,fp0:=h.fp0,fpB:=h.fpB,bel:=h.bel}
 obtain⟨v,k1,k2⟩:=h.tm _ u (Uv hu)
 refine⟨v,?_,k2⟩
 rw[Cx.val_ge (by omega)] at k1
 have e:(Cx.inn M C N a).gh (t+M)=C.val a (t+M-M):=rfl
 rw[e,Nat.add_sub_cancel] at k1
 exact k1
def AS.ret (σ:AS) (d:Option Nat) (u:AV):AS:=⟨match d with|some t=>(t,u)::nU σ.tm|none=>nU σ.tm,σ.bx,σ.tk⟩
def xB (P:Program) (rs:List ResultVar) (d:Option Nat) (S:AS→Prop):Exit→AS→Prop
 | .normal,σ=>∃us,Lm P σ rs us∧S (σ.ret d (single us))
 | .ret,σ=>∃us,Lm P σ rs us∧S (σ.ret d (single us))
 |_,_=>False
section
variable {P:Program} {C:Cx} {o:Oper} {σ:AS}
theorem dN {bm:BM} {gt:Nat→Value} {fp:Nat→Nat→Prop} {a:Act} {w:World} (hg:GG C bm gt fp σ a w) (hd:∀t,o.dst=some t→t<C.N) {f:FuncId} {fn:Func} {c:Code} {us:List AV} {vs:List Value} {S:AS→Prop} (hf:P.funcs[f]?=some fn) (hb:fn.body=some c) (hn:fn.results.size≤4) (hN:us.length≤fn.ntmps) (hN6:fn.ntmps≤1000000) (hl:vs.length=us.length)
 (hr:∀(i:Nat) u v,us[i]?=some u→vs[i]?=some v→RA C.W.heap.size fp w bm gt u v)
 (h:∀gh,C8 P ⟨C.W,C.fp0,fn.ntmps,gh,C.z0⟩ c (xB P fn.results.toList o.dst S) ⟨inT us σ.tm,σ.bx,σ.tk⟩) {K:Act→World→Prop} {Q:Exit→Act→World→Prop} (hK:∀σ' a' w',S σ'→G C σ' a' w'→K a' w'):
 o.upon P a K Q (.ok (.enter f vs.toArray) w):=by
 rw[Oper.upon_enter]
 have hcalls:Calls P f vs.toArray w fun e w'=>∃v σ' u,e= .returned v∧S (σ'.ret o.dst u)∧∃bm gt fp a',GG (Cx.inn 1000000 C fn.ntmps a) bm gt fp σ' a' w'∧RA C.W.heap.size fp w' bm gt u v:=by
  refine calls_of_wp hf hb ?_
  have hG:=hg.inn (M:=1000000) rfl (us:=us) (vs:=vs) hN6 hl hN hr
  refine wp_mono (h _ _ w ⟨bm,gt,fp,hG⟩) fun e a1 w' ⟨σ',hΦ,bm',gt',fp',hg'⟩=> ?_
  have fin:(∃us,Lm P σ' fn.results.toList us∧S (σ'.ret o.dst (single us)))→bodyPost P fn (fun e w'=>∃v σ' u,e= .returned v∧S (σ'.ret o.dst u)∧∃bm gt fp a',GG (Cx.inn 1000000 C fn.ntmps a) bm gt fp σ' a' w'∧RA C.W.heap.size fp w' bm gt u v) .ret a1 w':=by
   rintro⟨us',h1,h2⟩
   obtain⟨v,hrun,hra⟩:=Mj hg' h1 hn
   exact⟨hg'.df,v,hrun,v,σ',single us',rfl,h2,bm',gt',fp',a1,hg',hra⟩
  cases e with
  |normal=>exact fin hΦ
  |ret=>exact fin hΦ
  |_=>exact hΦ.elim
 refine hcalls.mono ?_
 rintro e w' ⟨v,σ',u,rfl,hS,bm',gt',fp',a',hg',hra⟩
 simp only[]
 have ho:=hg'.out (M:=1000000) rfl hg.sz hg.nN hg.df
 refine hK _ _ _ hS ?_
 unfold AS.ret
 cases hdd:o.dst with
 |none=>exact⟨bm',gt',fp',ho⟩
 |some t=>exact⟨bm',gt',fp',ho.put (t:=t) (hd t hdd) hra⟩
theorem xC {f:FuncId} {fn:Func} {c:Code} {args:Array Operand} {ats:Array TypeId} {us:List AV} {S:AS→Prop} (ho:o.op= .call {callee:= .value (.func f),args:=args,argTypes:=ats}) (hd:∀t,o.dst=some t→t<C.N)
 (hu:evL σ args.toList=some us) (he:∀xs0 w,(callFunc f xs0).run P w= .ok (.enter f xs0) w) (hf:P.funcs[f]?=some fn) (hb:fn.body=some c) (hn:fn.results.size≤4) (hN:us.length≤fn.ntmps) (hN6:fn.ntmps≤1000000)
 (h:∀gh,C8 P ⟨C.W,C.fp0,fn.ntmps,gh,C.z0⟩ c (xB P fn.results.toList o.dst S) ⟨inT us σ.tm,σ.bx,σ.tk⟩):Ic P C o σ S:=by
 rintro a w ⟨bm,gt,fp,hg⟩ K Q hK
 obtain⟨hl,hr⟩:=hg.evA hu
 have hrun:(execOp a.eval o).run P w= .ok (.enter f (args.toList.map a.eval).toArray) w:=by
  simp only[execOp,ho,resolve,Deferred.ofValue,Act.eval,invoke,Sem.run_bind,Sem.run_pure,Result.andThen_ok,he]
  obtain⟨l⟩:=args
  simp
 unfold Oper.wp
 rw[hrun]
 exact dN hg hd hf hb hn hN hN6 hl hr h hK
theorem sO {f:FuncId} {s:Nat} {fs cs:List AV} {fn:Func} {c:Code} {args:Array Operand} {ats:Array TypeId} {us:List AV} {S:AS→Prop} (ho:o.op= .call {callee:= .value (.tmp s),args:=args,argTypes:=ats}) (hd:∀t,o.dst=some t→t<C.N)
 (hfv:σ.eval (.tmp s)=some (.cl f fs cs)) (hu:evL σ args.toList=some us) (he:∀xs0 w,(callFunc f xs0).run P w= .ok (.enter f xs0) w) (hf:P.funcs[f]?=some fn) (hb:fn.body=some c) (hn:fn.results.size≤4) (hN:(fs++us++cs).length≤fn.ntmps) (hN6:fn.ntmps≤1000000)
 (h:∀gh,C8 P ⟨C.W,C.fp0,fn.ntmps,gh,C.z0⟩ c (xB P fn.results.toList o.dst S) ⟨inT (fs++us++cs) σ.tm,σ.bx,σ.tk⟩):Ic P C o σ S:=by
 rintro a w ⟨bm,gt,fp,hg⟩ K Q hK
 obtain⟨hl,hr⟩:=hg.evA hu
 have hv0:=hg.eval (x:= .tmp s) hfv
 generalize hv:a.eval (.tmp s)=v at hv0
 cases hv0 with
 |cl ms ns h3 h4 h6 h7=>
  have hrun:(execOp a.eval o).run P w= .ok (.enter f (ms++args.toList.map a.eval++ns).toArray) w:=by
   simp only[execOp,ho,resolve,hv,Deferred.ofValue,invoke,Sem.run_bind,Sem.run_pure,Result.andThen_ok,he]
   obtain⟨l⟩:=args
   simp
  unfold Oper.wp
  rw[hrun]
  have app:∀{xs ys:List AV} {ps qs:List Value},ps.length=xs.length→qs.length=ys.length→(∀(i:Nat) u v,xs[i]?=some u→ps[i]?=some v→RA C.W.heap.size fp w bm gt u v)→(∀(i:Nat) u v,ys[i]?=some u→qs[i]?=some v→RA C.W.heap.size fp w bm gt u v)→∀(i:Nat) u v,(xs++ys)[i]?=some u→(ps++qs)[i]?=some v→RA C.W.heap.size fp w bm gt u v:=by
   intro xs ys ps qs e1 e2 h1 h2 i u v hu hv
   by_cases hi:i<xs.length
   ·rw[List.getElem?_append_left hi] at hu
    rw[List.getElem?_append_left (by omega)] at hv
    exact h1 i u v hu hv
   ·rw[List.getElem?_append_right (by omega)] at hu
    rw[List.getElem?_append_right (by omega)] at hv
    rw[e1] at hv
    exact h2 _ u v hu hv
  refine dN hg hd hf hb hn hN hN6 ?_ (app (by rw[Ap,Ap,h3,hl]) h4 (app h3 hl h6 hr) h7) h hK
  simp only[Ap]
  omega
end
abbrev TM:=List (Nat×AV)
abbrev BX:=List (Nat×List AV)
abbrev TK:=List (Nat×Nat×Nat×TypeId)
abbrev KS:=TM→BX→TK→Prop
structure Tab where
 ty:List (Nat×TypeDesc×Value×Nat×Nat)
 fd:List (Nat×List (Nat×Nat×Bool))
 st:List (Nat×List (Nat×Nat))
 mu:List Nat
 off:Nat
structure TabOk (P:Program) (T:Tab):Prop where
 ty:∀{t d z sz b},lk t T.ty=some (d,z,sz,b)→TyOk P t d z sz b
 fd:∀{t:Nat} {l i off sz ag},lk t T.fd=some l→l[i]?=some (off,sz,ag)→FldOk P t i off sz ag
 st:∀{t pl},lk t T.st=some pl→StrOk P t pl
structure NBr (b:Bool) (A B:Prop):Prop where
 t:b=true→A
 f:b=false→B
structure NInt (e:Int) (A:Int→Prop):Prop where
 h:∀z,e=z→A z
structure NFact (F A:Prop):Prop where
 h:F
 k:A
structure NIdx (cs:List D) (n sz:Nat) (j:Int) (A:List D→Prop):Prop where
 h:∃(i:Nat) (ds:List D),j=(i:Int)∧i<n∧(cs.drop (i*sz)).take sz=ds∧A ds
structure NIdxS (l:List UInt8) (j:Int) (A:UInt8→Prop):Prop where
 h:∃(i:Nat) (b:UInt8),j=(i:Int)∧l[i]?=some b∧A b
structure NSl (cs:List D) (n sz:Nat) (lo hi mx:Int) (A:Nat→List D→Prop):Prop where
 h:∃(l h m r:Nat) (ds:List D),lo=(l:Int)∧hi=(h:Int)∧mx=(m:Int)∧l≤h∧h≤m∧m≤n∧h-l=r∧(cs.drop (l*sz)).take (r*sz)=ds∧A r ds
structure NSlS (s:List UInt8) (lo hi:Int) (A:List UInt8→Prop):Prop where
 h:∃(l h:Nat) (r:List UInt8),lo=(l:Int)∧hi=(h:Int)∧l≤h∧h≤s.length∧(s.drop l).take (h-l)=r∧A r
structure NStr (cs:List D) (A:List UInt8→Prop):Prop where
 h:∃l,cs=Ak l∧A l
structure NApp (n' n m:Nat) (cs ds:List D) (A:Nat→List D→Prop):Prop where
 h:n'=n∧n+m≤1000000000∧∃(r:Nat) (es:List D),n+m=r∧cs++ds=es∧A r es
structure NCall (P:Program) (f:FuncId) (args:List AV) (A:AV→Prop):Prop where
 h:∃r,Ab P f args (fun r'=>r'=r)∧A r
structure NStep (P:Program) (C:Cx) (o:Oper) (tm:TM) (bx:BX) (tk:TK) (K:KS):Prop where
 h:∃S,Ic P C o ⟨tm,bx,tk⟩ S∧∀σ',S σ'→K σ'.tm σ'.bx σ'.tk
structure NLa (P:Program) (C:Cx) (o:Oper) (tm:TM) (bx:BX) (tk:TK) (k:It→Prop):Prop where
 h:∃it,LA P C o it ⟨tm,bx,tk⟩∧k it
def xD (kn:KS) (ke:Nat→KS) (kr:KS):Exit→AS→Prop
 | .normal,σ=>kn σ.tm σ.bx σ.tk
 | .exit id,σ=>ke id σ.tm σ.bx σ.tk
 | .ret,σ=>kr σ.tm σ.bx σ.tk
 |_,_=>False
structure NCode (P:Program) (C:Cx) (c:Code) (tm:TM) (bx:BX) (tk:TK) (kn:KS) (ke:Nat→KS) (kr:KS):Prop where
 h:C8 P C c (xD kn ke kr) ⟨tm,bx,tk⟩
structure NLoop (tm:TM) (bx:BX) (tk:TK) (R:KS→KS):Prop where
 h:∃(α:Type) (inv:α→Prop) (ms:α→Nat) (st:α→AS) (W:AS→AS→Prop) (a0:α),(∀a b,W a b→Ent a b)∧inv a0∧Ent ⟨tm,bx,tk⟩ (st a0)∧
  ∀a,inv a→R (fun tm' bx' tk'=>∃a',inv a'∧ms a'<ms a∧W ⟨tm',bx',tk'⟩ (st a')) (st a).tm (st a).bx (st a).tk
structure NEnd (tm:TM) (bx:BX) (tk:TK) (u:AV) (Φ:AV→Prop):Prop where
 h:∃r,Fini ⟨tm,bx,tk⟩ u r∧Φ r
noncomputable def Dm {α:Type} (l:List α) (K:List α→Prop):Prop:=
 @List.rec α (fun _=>(List α→Prop)→Prop) (fun K=>K []) (fun x _ ih K=>ih (fun ys=>K (x::ys))) l K
theorem Cc {α:Type}:∀{l:List α} {K:List α→Prop},Dm l K→K l
 |[],_,h=>h
 |x::r,K,h=>Cc (l:=r) (K:=fun ys=>K (x::ys)) h
def evT (tm:TM):Operand→Option AV
 | .tmp t=>bif Nat.blt t 1000000 then lk t tm else none
 | .const v=>some (.d (.v v))
 | .func f=>some (.d (.fn f []))
 | .global _=>none
theorem Bo {tm:TM} {bx:BX} {tk:TK} {x:Operand} {u:AV} (h:evT tm x=some u):AS.eval ⟨tm,bx,tk⟩ x=some u:=by cases x<;>exact h
noncomputable def kA (tm:TM) (l:List Operand) (K:List AV→Prop) (dflt:Prop):Prop:=
 @List.rec Operand (fun _=>(List AV→Prop)→Prop) (fun K=>K []) (fun x _ ih K=>match evT tm x with
  |some u=>ih (fun us=>K (u::us))
  |none=>dflt) l K
theorem Nq {tm:TM} {bx:BX} {tk:TK} {dflt:Prop}:∀{l:List Operand} {K:List AV→Prop},kA tm l K dflt→(∃us,evL ⟨tm,bx,tk⟩ l=some us∧K us)∨dflt
 |[],K,h=> .inl ⟨[],rfl,h⟩
 |x::r,K,h=>by
  have h':(match evT tm x with|some u=>kA tm r (fun us=>K (u::us)) dflt|none=>dflt):=h
  cases hx:evT tm x with
  |none=>rw[hx] at h';exact .inr h'
  |some u=>
   rw[hx] at h'
   rcases Nq (bx:=bx) (tk:=tk) h' with⟨us,h1,h2⟩|h2
   ·refine .inl ⟨u::us,?_,h2⟩
    unfold evL
    rw[Bo hx,h1]
   ·exact .inr h2
noncomputable def EZ (tm:TM) (l:List (Nat×Operand)) (K:List (Nat×AV)→Prop) (dflt:Prop):Prop:=
 @List.rec (Nat×Operand) (fun _=>(List (Nat×AV)→Prop)→Prop) (fun K=>K []) (fun x _ ih K=>match evT tm x.2 with
  |some u=>ih (fun us=>K ((x.1,u)::us))
  |none=>dflt) l K
theorem Z7 {tm:TM} {bx:BX} {tk:TK} {dflt:Prop}:∀{l:List (Nat×Operand)} {K:List (Nat×AV)→Prop},EZ tm l K dflt→(∃us,evP ⟨tm,bx,tk⟩ l=some us∧K us)∨dflt
 |[],K,h=> .inl ⟨[],rfl,h⟩
 |(i,x)::r,K,h=>by
  have h':(match evT tm x with|some u=>EZ tm r (fun us=>K ((i,u)::us)) dflt|none=>dflt):=h
  cases hx:evT tm x with
  |none=>rw[hx] at h';exact .inr h'
  |some u=>
   rw[hx] at h'
   rcases Z7 (bx:=bx) (tk:=tk) h' with⟨us,h1,h2⟩|h2
   ·refine .inl ⟨(i,u)::us,?_,h2⟩
    unfold evP
    rw[Bo hx,h1]
   ·exact .inr h2
def kvW (N:Nat) (dst:Option Nat) (rb:List Nat) (u:AV) (k:It→Prop) (dflt:Prop):Prop:=
 match dst with
 |some t=>bif Nat.blt t N then k ⟨rb,some (t,u),none,none,[],[],[],[]⟩ else dflt
 |none=>dflt
theorem D8 {N:Nat} {dst:Option Nat} {rb:List Nat} {u:AV} {k:It→Prop} {dflt:Prop} (h:kvW N dst rb u k dflt):(∃t,dst=some t∧t<N∧k ⟨rb,some (t,u),none,none,[],[],[],[]⟩)∨dflt:=by
 unfold kvW at h
 split at h
 ·rename_i t
  cases hb:Nat.blt t N with
  |true=>rw[hb] at h;exact .inl ⟨t,rfl,ltN hb,h⟩
  |false=>rw[hb] at h;exact .inr h
 ·exact .inr h
def dO (T:Tab) (t:Nat) (K:Nat→Prop):Prop:=
 match T.off with
 |0=>K t
 |n+1=>K (t+(n+1))
theorem Nr {T:Tab} {t:Nat} {K:Nat→Prop} (h:dO T t K):∃κ,K κ:=by
 unfold dO at h
 split at h
 ·exact⟨_,h⟩
 ·exact⟨_,h⟩
def Oq (k k':IntKind):Bool:=Nat.beq k.ctorIdx k'.ctorIdx
theorem xE {k k':IntKind} (h:Oq k k'=true):k=k':=by cases k<;>cases k'<;>first|rfl|cases h
section
variable (P:Program) (C:Cx) (T:Tab)
def sP (tm:TM) (dst:Option Nat) (x:Operand) (k:It→Prop) (dflt:Prop):Prop:=
 match evT tm x with
 |some u=>kvW C.N dst [] u k dflt
 |none=>dflt
def xF (op:BinOp) (k k':IntKind) (m n:Int) (kz:Value→Prop) (dflt:Prop):Prop:=
 match op with
 | .add=>bif Oq k k' then NInt (k.wrap (m+n)) (fun z=>kz (.int k z)) else dflt
 | .sub=>bif Oq k k' then NInt (k.wrap (m-n)) (fun z=>kz (.int k z)) else dflt
 | .mul=>bif Oq k k' then NInt (k.wrap (m*n)) (fun z=>kz (.int k z)) else dflt
 | .and=>bif Oq k k' then NInt (k.wrap (BitVec.ofInt k.bits m&&&BitVec.ofInt k.bits n).toNat) (fun z=>kz (.int k z)) else dflt
 | .or=>bif Oq k k' then NInt (k.wrap (BitVec.ofInt k.bits m|||BitVec.ofInt k.bits n).toNat) (fun z=>kz (.int k z)) else dflt
 | .quo=>bif Oq k k' then NFact (n≠0) (NInt (k.wrap (m.tdiv n)) (fun z=>kz (.int k z))) else dflt
 | .rem=>bif Oq k k' then NFact (n≠0) (NInt (m.tmod n) (fun z=>kz (.int k z))) else dflt
 | .shl=>NFact (0≤n) (NInt (k.wrap (m*2^(min n.toNat k.bits))) (fun z=>kz (.int k z)))
 | .shr=>NFact (0≤n) (NInt (m.fdiv (2^(min n.toNat k.bits))) (fun z=>kz (.int k z)))
 |op=>bif Oq k k' then(match OQ op k m n with
  |some z=>kz z
  |none=>dflt) else dflt
def xG (op:BinOp) (xt:TypeId) (p q:Value) (kz:Value→Prop) (dflt:Prop):Prop:=
 match p,q with
 | .int k m,.int k' n=>xF op k k' m n kz dflt
 | .bool a,.bool b=>(match lk xt T.ty with
   |some (.bool,_,_,_)=>(match op with
    | .eql=>kz (.bool (a==b))
    | .neq=>kz (.bool (!(a==b)))
    |_=>dflt)
   |_=>dflt)
 | .string ⟨⟨l⟩⟩,.string ⟨⟨m⟩⟩=>(match op with
   | .eql=>kz (.bool (l==m))
   | .neq=>kz (.bool (!(l==m)))
   | .add=>NFact (l.length+m.length≤1000000000) (kz (.string ⟨(l++m).toArray⟩))
   |_=>dflt)
 |_,_=>dflt
def KQ (tm:TM) (dst:Option Nat) (op:BinOp) (xt:TypeId) (x y:Operand) (k:It→Prop) (dflt:Prop):Prop:=
 match evT tm x,evT tm y with
 |some (.d (.v p)),some (.d (.v q))=>xG T op xt p q (fun z=>kvW C.N dst [] (.d (.v z)) k dflt) dflt
 |_,_=>dflt
def KR (tm:TM) (dst:Option Nat) (op:UnOp) (x:Operand) (k:It→Prop) (dflt:Prop):Prop:=
 match op,evT tm x with
 | .not,some (.d (.v (.bool b)))=>kvW C.N dst [] (.d (.v (.bool !b))) k dflt
 |_,_=>dflt
def xH (ux:AV) (e:TypeId) (kl:List UInt8→Prop) (dflt:Prop):Prop:=
 match lk e T.ty with
 |some (.int .u8,_,_,_)=>(match ux.asSlT 1 with
  |some (_,_,cs)=>NStr cs kl
  |none=>dflt)
 |_=>dflt
def xI (tm:TM) (dst:Option Nat) (src dt:TypeId) (x:Operand) (k:It→Prop) (dflt:Prop):Prop:=
 match evT tm x with
 |some ux=>(match lk dt T.ty with
  |some (.int ki,_,_,_)=>(match ux,lk src T.ty with
   | .d (.v (.int _ m)),some _=>NInt (ki.wrap m) (fun z=>kvW C.N dst [] (.d (.v (.int ki z))) k dflt)
   |_,_=>dflt)
  |some (.string,_,_,_)=>(match lk src T.ty with
   |some (.string,_,_,_)=>(match ux with
    | .d (.v (.string s))=>kvW C.N dst [] (.d (.v (.string s))) k dflt
    |_=>dflt)
   |some (.slice e,_,_,_)=>xH T ux e (fun l=>kvW C.N dst [] (.d (.v (.string ⟨l.toArray⟩))) k dflt) dflt
   |_=>dflt)
  |_=>dflt)
 |none=>dflt
def Uw (tm:TM) (dst:Option Nat) (x:Operand) (i:Nat) (k:It→Prop) (dflt:Prop):Prop:=
 match evT tm x with
 |some (.tup us)=>(match us[i]? with
  |some u=>kvW C.N dst [] u k dflt
  |none=>dflt)
 |_=>dflt
noncomputable def xJ (tm:TM) (bx:BX) (dst:Option Nat) (ty:TypeId) (x:Operand) (k:It→Prop) (dflt:Prop):Prop:=
 match lk ty T.ty with
 |some (d,_,sz,_)=>(match evT tm x with
  |some (.ptr b off)=>(match lk b bx with
   |some cs=>bif Jm d then Dm ((cs.drop off).take sz) (fun us=>bif Nat.beq us.length sz then kvW C.N dst [b] (.agg us) k dflt else dflt)
    else(match cs[off]? with
     |some u=>kvW C.N dst [b] u k dflt
     |none=>dflt)
   |none=>dflt)
  |some (.d (.cp _ ds))=>bif Jm d then(bif Nat.beq ds.length sz then Dm (ds.map AV.d) (fun us=>kvW C.N dst [] (.agg us) k dflt) else dflt)
    else(match ds with
     |u::_=>kvW C.N dst [] (.d u) k dflt
     |[]=>dflt)
  |_=>dflt)
 |none=>dflt
noncomputable def kB (tm:TM) (bx:BX) (dst:Option Nat) (ty:TypeId) (x y:Operand) (k:It→Prop) (dflt:Prop):Prop:=
 match dst,lk ty T.ty with
 |none,some (_,_,sz,_)=>(match evT tm x,evT tm y with
  |some (.ptr b off),some u=>(match lk b bx with
   |some cs=>bif u.flat&&Nat.beq u.cells.length sz&&Nat.ble (off+sz) cs.length then Dm (Fr cs off u.cells) (fun cs'=>k ⟨[b],none,some (b,cs'),none,[],[],[],[]⟩) else dflt
   |none=>dflt)
  |_,_=>dflt)
 |_,_=>dflt
noncomputable def kC (dst:Option Nat) (ty:TypeId) (k:It→Prop) (dflt:Prop):Prop:=
 match dst,lk ty T.ty with
 |some t,some (_,z,_,_)=>bif Nat.blt t C.N then dO T t (fun κ=>Dm (z.cells.toList.map (fun x=>AV.d (.v x))) (fun zs=>k ⟨[],some (t,.ptr κ 0),some (κ,zs),none,[κ],[],[],[]⟩)) else dflt
 |_,_=>dflt
noncomputable def KT (tm:TM) (dst:Option Nat) (ty:TypeId) (x:Operand) (k:It→Prop) (dflt:Prop):Prop:=
 match dst,lk ty T.ty,evT tm x with
 |some t,some _,some u=>bif Nat.blt t C.N&&u.flat then dO T t (fun κ=>bif u.clean κ then Dm u.cells (fun cs=>k ⟨[],some (t,.ptr κ 0),some (κ,cs),none,[κ],[],[],[]⟩) else dflt) else dflt
 |_,_,_=>dflt
noncomputable def O4 (tm:TM) (dst:Option Nat) (ty:TypeId) (x:Operand) (i:Nat) (k:It→Prop) (dflt:Prop):Prop:=
 match lk ty T.fd with
 |some fl=>(match fl[i]? with
  |some (off,sz,_)=>bif Nat.blt 0 sz then(match evT tm x with
   |some (.ptr b p)=>kvW C.N dst [] (.ptr b (p+off)) k dflt
   |some (.d (.cp tg ds))=>Dm ((ds.drop off).take sz) (fun ds'=>kvW C.N dst [] (.d (.cp tg ds')) k dflt)
   |_=>dflt) else dflt
  |none=>dflt)
 |none=>dflt
noncomputable def kD (tm:TM) (dst:Option Nat) (ty:TypeId) (x:Operand) (i:Nat) (k:It→Prop) (dflt:Prop):Prop:=
 match lk ty T.fd with
 |some fl=>(match fl[i]? with
  |some (off,sz,ag)=>(match evT tm x with
   |some (.agg us)=>bif ag then Dm ((us.drop off).take sz) (fun us'=>kvW C.N dst [] (.agg us') k dflt)
    else(match us[off]? with
     |some u=>kvW C.N dst [] u k dflt
     |none=>dflt)
   |_=>dflt)
  |none=>dflt)
 |none=>dflt
noncomputable def kE (tm:TM) (dst:Option Nat) (ty:TypeId) (ps:Array (Nat×Operand)) (k:It→Prop) (dflt:Prop):Prop:=
 match lk ty T.ty,lk ty T.st with
 |some (_,z,_,_),some pl=>EZ tm ps.toList (fun us=>match Ml (fun i:Nat=>pl[i]?) (z.cells.toList.map (fun x=>AV.d (.v x))) us with
  |some cs=>Dm cs (fun cs=>kvW C.N dst [] (.agg cs) k dflt)
  |none=>dflt) dflt
 |_,_=>dflt
noncomputable def xK (tm:TM) (dst:Option Nat) (st:TypeId) (n:Nat) (ps:Array (Nat×Operand)) (k:It→Prop) (dflt:Prop):Prop:=
 match dst,lk st T.ty with
 |some t,some (.slice e,_,_,_)=>(match lk e T.ty with
  |some (_,z,sz,_)=>bif Nat.blt t C.N&&Nat.ble (n*sz) 1000&&Nat.ble n 1000 then EZ tm ps.toList (fun us=>match Ml (fun i=>some (i*sz,sz)) ((List.range (n*sz)).map fun i=>AV.d (.v (z.cells[i%z.cells.size]!))) us with
   |some cs=>(match Ew cs with
    |some ds=>bif Mh cs then dO T t (fun κ=>Dm ds (fun ds=>k ⟨[],some (t,.own κ n sz e ds),none,some (κ,n,sz,e),[κ],[],[],[]⟩)) else dflt
    |none=>dflt)
   |none=>dflt) dflt else dflt
  |none=>dflt)
 |_,_=>dflt
def xL (tm:TM) (dst:Option Nat) (st:TypeId) (x y:Operand) (k:It→Prop) (dflt:Prop):Prop:=
 match lk st T.ty with
 |some (.slice e,_,_,_)=>(match lk e T.ty with
  |some (_,_,sz,_)=>bif Nat.blt 0 sz then(match evT tm x,evT tm y with
   |some ux,some (.d (.v (.int _ j)))=>(match ux.asSlT sz with
    |some (tg,n,cs)=>NIdx cs n sz j (fun ds=>kvW C.N dst [] (.d (.cp tg ds)) k dflt)
    |none=>dflt)
   |_,_=>dflt) else dflt
  |none=>dflt)
 |_=>dflt
def KU (tm:TM) (dst:Option Nat) (st:TypeId) (x y:Operand) (k:It→Prop) (dflt:Prop):Prop:=
 match lk st T.ty with
 |some (.string,_,_,_)=>(match evT tm x,evT tm y with
  |some (.d (.v (.string ⟨⟨l⟩⟩))),some (.d (.v (.int _ j)))=>NIdxS l j (fun b=>kvW C.N dst [] (.d (.v (.int .u8 b.toNat))) k dflt)
  |_,_=>dflt)
 |_=>dflt
def kF (tm:TM) (x:Option Operand) (d:Nat) (K:Int→Prop) (dflt:Prop):Prop:=
 match x with
 |none=>K (d:Int)
 |some x=>(match evT tm x with
  |some (.d (.v (.int _ z)))=>K z
  |_=>dflt)
def kG (tm:TM) (dst:Option Nat) (st:TypeId) (x:Operand) (ol oh om:Option Operand) (k:It→Prop) (dflt:Prop):Prop:=
 match lk st T.ty with
 |some (.slice e,_,_,_)=>(match lk e T.ty with
  |some (_,_,sz,_)=>(match evT tm x with
   |some ux=>(match ux.asSlT sz with
    |some (tg,n,cs)=>(match oh,om with
     |none,some _=>dflt
     |_,_=>kF tm ol 0 (fun lo=>kF tm oh n (fun hi=>kF tm om n (fun mx=>NSl cs n sz lo hi mx (fun r ds=>kvW C.N dst [] (.d (.sl tg r sz ds)) k dflt)) dflt) dflt) dflt)
    |none=>dflt)
   |none=>dflt)
  |none=>dflt)
 |some (.string,_,_,_)=>(match evT tm x,om with
  |some (.d (.v (.string ⟨⟨l⟩⟩))),none=>kF tm ol 0 (fun lo=>kF tm oh l.length (fun hi=>NSlS l lo hi (fun r=>kvW C.N dst [] (.d (.v (.string ⟨r.toArray⟩))) k dflt)) dflt) dflt
  |_,_=>dflt)
 |_=>dflt
def xM (dst:Option Nat) (r:AV) (k:It→Prop) (dflt:Prop):Prop:=
 match dst with
 |some t=>bif Nat.blt t C.N then dO T t (fun κ=>match r with
  | .own _ n sz e cs=>k ⟨[],some (t,.own κ n sz e cs),none,some (κ,n,sz,e),[κ],[],[],[]⟩
  | .tup us=>(match us with
    | .own _ n sz e cs::rest=>k ⟨[],some (t,.tup (.own κ n sz e cs::rest)),none,some (κ,n,sz,e),[κ],[],[],[]⟩
    |us=>k ⟨[],some (t,.tup us),none,none,[κ],[],[],[]⟩)
  |u=>k ⟨[],some (t,u),none,none,[κ],[],[],[]⟩) else dflt
 |none=>dflt
noncomputable def xN (tm:TM) (dst:Option Nat) (c:Call) (k:It→Prop) (dflt:Prop):Prop:=
 match c with
 |⟨.value (.func f),args,_⟩=>bif Ln f T.mu then dflt else kA tm args.toList (fun us=>bif AV.noPtrs us then NCall P f (AV.gives us) (fun r=>xM C T dst r k dflt) else dflt) dflt
 |⟨.value (.tmp s),args,_⟩=>(match evT tm (.tmp s) with
  |some (.d (.fn f caps))=>bif Ln f T.mu then dflt else kA tm args.toList (fun us=>bif AV.noPtrs us then NCall P f (AV.gives us++AV.gives (caps.map AV.d)) (fun r=>xM C T dst r k dflt) else dflt) dflt
  |some (.cl f fs cs)=>bif Ln f T.mu then dflt else kA tm args.toList (fun us=>bif AV.noPtrs fs&&AV.noPtrs us&&AV.noPtrs cs then NCall P f (AV.gives fs++AV.gives us++AV.gives cs) (fun r=>xM C T dst r k dflt) else dflt) dflt
  |_=>dflt)
 |⟨.builtin .len,⟨[x]⟩,⟨[st]⟩⟩=>(match lk st T.ty,evT tm x with
  |some (.string,_,_,_),some (.d (.v (.string ⟨⟨l⟩⟩)))=>kvW C.N dst [] (.d (.v (.int .i64 l.length))) k dflt
  |some (.slice e,_,_,_),some ux=>(match lk e T.ty with
   |some (_,_,sz,_)=>(match ux.asSlT sz with
    |some (_,n,_)=>kvW C.N dst [] (.d (.v (.int .i64 n))) k dflt
    |none=>dflt)
   |none=>dflt)
  |_,_=>dflt)
 |_=>dflt
noncomputable def xO (tm:TM) (dst:Option Nat) (f:FuncId) (first captured:Array Operand) (k:It→Prop) (dflt:Prop):Prop:=
 kA tm first.toList (fun fs=>kA tm captured.toList (fun cs=>kvW C.N dst [] (.cl f fs cs) k dflt) dflt) dflt
noncomputable def sQ (o:Oper) (tm:TM) (bx:BX) (k:It→Prop) (dflt:Prop):Prop:=
 match o.op with
 | .move x=>sP C tm o.dst x k dflt
 | .assign x=>sP C tm o.dst x k dflt
 | .pick c x y=>(match evT tm c with
   |some (.d (.v (.bool b)))=>NBr b (sP C tm o.dst x k dflt) (sP C tm o.dst y k dflt)
   |_=>dflt)
 | .binOp op xt x y _=>KQ C T tm o.dst op xt x y k dflt
 | .unOp op _ x=>KR C tm o.dst op x k dflt
 | .convert s d x=>xI C T tm o.dst s d x k dflt
 | .extract x i=>Uw C tm o.dst x i k dflt
 | .load ty x=>xJ C T tm bx o.dst ty x k dflt
 | .store ty x y=>kB T tm bx o.dst ty x y k dflt
 | .alloc ty=>kC C T o.dst ty k dflt
 | .box ty x=>KT C T tm o.dst ty x k dflt
 | .fieldAddr ty x i=>O4 C T tm o.dst ty x i k dflt
 | .field ty x i=>kD C T tm o.dst ty x i k dflt
 | .build ty ps=>kE C T tm o.dst ty ps k dflt
 | .buildSlice st n ps=>xK C T tm o.dst st n ps k dflt
 | .indexAddr st x y=>xL C T tm o.dst st x y k dflt
 | .index st x y=>KU C T tm o.dst st x y k dflt
 | .slice st x l h m=>kG C T tm o.dst st x l h m k dflt
 | .call c=>xN P C T tm o.dst c k dflt
 | .makeFunc (.func f) first captured=>xO C tm o.dst f first captured k dflt
 |_=>dflt
def ocK {β:Type} (o:Option (Nat×β)) (l:List (Nat×β)) (K:List (Nat×β)→Prop):Prop:=
 match o with
 |some x=>K (x::l)
 |none=>K l
theorem kH {β:Type} {o:Option (Nat×β)} {l:List (Nat×β)} {K:List (Nat×β)→Prop} (h:ocK o l K):K (oc o l):=by
 unfold ocK at h;split at h<;>exact h
def mtK {β:Type} (m:List (Nat×β)) (l:List (Nat×β)) (K:List (Nat×β)→Prop):Prop:=
 match m with
 |[]=>K l
 |x::r=>K ((x::r)++l)
theorem xP {β:Type} {m l:List (Nat×β)} {K:List (Nat×β)→Prop} (h:mtK m l K):K (m++l):=by
 unfold mtK at h;split at h<;>exact h
def Z8 (it:It) (tm:TM) (bx:BX) (tk:TK) (K:KS):Prop:=mtK it.mt tm fun tm=>mtK it.mb bx fun bx=>ocK it.tm tm fun tm'=>ocK it.bx bx fun bx'=>ocK it.tk tk fun tk'=>K tm' bx' tk'
theorem Ti {it:It} {tm:TM} {bx:BX} {tk:TK} {K:KS} (h:Z8 it tm bx tk K):K (AS.add ⟨tm,bx,tk⟩ it).tm (AS.add ⟨tm,bx,tk⟩ it).bx (AS.add ⟨tm,bx,tk⟩ it).tk:=kH (kH (kH (xP (xP h))))
def dP (ids:List Nat) (tm:TM) (bx:BX):Bool:=
 match ids with
 |[]=>true
 |[t]=>clT t tm&&clB t bx
 |l=>l.all fun t=>clT t tm&&clB t bx
theorem xQ {ids:List Nat} {tm:TM} {bx:BX} {tk:TK} (h:dP ids tm bx=true):ClA ids ⟨tm,bx,tk⟩:=by
 intro id hid
 unfold dP at h
 split at h
 ·simp at hid
 ·simp at hid;subst hid;exact h
 ·exact List.all_eq_true.1 h id hid
def dQ (ids:List Nat) (it:It) (tm:TM) (bx:BX):Bool:=
 match ids with
 |[]=>true
 |l=>l.all fun id=>clX it id tm bx
theorem xR {it:It} {tm:TM} {bx:BX} {tk:TK} (h:dQ it.ex it tm bx=true):AgB it ⟨tm,bx,tk⟩ ⟨tm,bx,tk⟩:=by
 refine⟨fun _ _=>rfl,fun _ _=>rfl,fun _ _=>rfl,fun _ _=>rfl,fun id hid=> ?_⟩
 unfold dQ at h
 split at h
 ·rename_i he;rw[he] at hid;cases hid
 ·exact List.all_eq_true.1 h id hid
noncomputable def shK (k:Nat) (tm:TM) (K:TM→Prop):Prop:=
 @List.rec (Nat×AV) (fun _=>(TM→Prop)→Prop) (fun K=>K []) (fun p _ ih K=>match p with
  |(j,.d x)=>ih (fun r=>K ((j,.d x)::r))
  |(j,.ptr a o)=>ih (fun r=>K ((j,.ptr a o)::r))
  |(j,.sem φ)=>ih (fun r=>K ((j,.sem φ)::r))
  |(j,.own i n sz e cs)=>bif Nat.beq i k then ih (fun r=>K ((j,.d (.sl true n sz cs))::r)) else ih (fun r=>K ((j,.own i n sz e cs)::r))
  |(j,u)=>ih (fun r=>K ((j,u.share k)::r))) tm K
theorem J8 {k:Nat}:∀{tm:TM} {K:TM→Prop},shK k tm K→K (shT k tm)
 |[],_,h=>h
 |(j,u)::r,K,h=>by
  have h':(match((j,u):Nat×AV) with
   |(j,.d x)=>shK k r (fun r=>K ((j,.d x)::r))
   |(j,.ptr a o)=>shK k r (fun r=>K ((j,.ptr a o)::r))
   |(j,.sem φ)=>shK k r (fun r=>K ((j,.sem φ)::r))
   |(j,.own i n sz e cs)=>bif Nat.beq i k then shK k r (fun r=>K ((j,.d (.sl true n sz cs))::r)) else shK k r (fun r=>K ((j,.own i n sz e cs)::r))
   |(j,u)=>shK k r (fun r=>K ((j,u.share k)::r))):=h
  cases u with
  |own i n sz e cs=>
   simp only at h'
   cases hb:Nat.beq i k with
   |true=>
    rw[hb] at h'
    have:=J8 h'
    simpa only[shT,AV.share,hb] using this
   |false=>
    rw[hb] at h'
    have:=J8 h'
    simpa only[shT,AV.share,hb] using this
  |d x=>exact J8 (K:=fun r=>K ((j,.d x)::r)) h'
  |ptr a o=>exact J8 (K:=fun r=>K ((j,.ptr a o)::r)) h'
  |agg cs=>exact J8 (K:=fun r=>K ((j,(AV.agg cs).share k)::r)) h'
  |tup cs=>exact J8 (K:=fun r=>K ((j,(AV.tup cs).share k)::r)) h'
  |sem φ=>exact J8 (K:=fun r=>K ((j,(AV.sem φ).share k)::r)) h'
  |cl f fs cs=>exact J8 (K:=fun r=>K ((j,(AV.cl f fs cs).share k)::r)) h'
  |pk a o n sz=>exact J8 (K:=fun r=>K ((j,(AV.pk a o n sz).share k)::r)) h'
noncomputable def KV (k:Nat) (bx:BX) (K:BX→Prop):Prop:=bif clB k bx then K bx else Dm (shB k bx) K
theorem FA {k:Nat} {bx:BX} {K:BX→Prop} (h:KV k bx K):K (shB k bx):=by
 unfold KV at h
 cases hb:clB k bx with
 |true=>rw[hb] at h;rw[Ks hb];exact h
 |false=>rw[hb] at h;exact Cc h
noncomputable def FB (o:Oper) (tm:TM) (bx:BX) (tk:TK) (K:KS) (dflt:Prop):Prop:=
 match o.op,o.dst with
 | .call ⟨.builtin .append,⟨[s,x]⟩,⟨[st,st']⟩⟩,some t=>(match lk st T.ty with
   |some (.slice e,_,_,_)=>(match lk e T.ty with
    |some (_,z,sz,by')=>bif Nat.blt t C.N&&Nat.beq st st'&&Nat.beq z.cells.toList.length sz&&Nat.blt 0 sz&&Nat.ble by' 1000 then(match evT tm s,evT tm x with
     |some (.own k n sz' e' cs),some ux=>(match lk k tk,ux.asSl sz with
      |some (n',sz'',e''),some (m,ds)=>bif Nat.beq sz' sz&&Nat.beq sz'' sz&&Nat.beq e' e&&Nat.beq e'' e then NApp n' n m cs ds (fun r es=>shK k tm (fun tm'=>KV k bx (fun bx'=>K ((t,.own k r sz e es)::tm') bx' ((k,r,sz,e)::tk)))) else dflt
      |_,_=>dflt)
     |some (.d (.v (.slice none 0 0))),some ux=>(match ux.asSl sz with
      |some (m,ds)=>dO T t (fun κ=>bif clT κ tm&&clB κ bx then NApp 0 0 m [] ds (fun r es=>K ((t,.own κ r sz e es)::tm) bx ((κ,r,sz,e)::tk)) else dflt)
      |none=>dflt)
     |_,_=>dflt) else dflt
    |none=>dflt)
   |_=>dflt)
 |_,_=>dflt
noncomputable def Z9 (o:Oper) (tm:TM) (bx:BX) (tk:TK) (k:It→Prop) (dflt:Prop):Prop:=
 match o.op,o.dst with
 | .call ⟨.builtin .append,⟨[s,x]⟩,⟨[st,st']⟩⟩,some t=>(match lk st T.ty with
   |some (.slice e,_,_,_)=>(match lk e T.ty with
    |some (_,z,sz,by')=>bif Nat.blt t C.N&&Nat.beq st st'&&Nat.beq z.cells.toList.length sz&&Nat.blt 0 sz&&Nat.ble by' 1000 then(match evT tm s,evT tm x with
     |some (.own i n sz' e' cs),some ux=>(match lk i tk,ux.asSl sz with
      |some (n',sz'',e''),some (m,ds)=>bif Nat.beq sz' sz&&Nat.beq sz'' sz&&Nat.beq e' e&&Nat.beq e'' e then NApp n' n m cs ds (fun r es=>Dm (drT i tm tm) (fun mt=>Dm (drB i bx bx) (fun mb=>k ⟨[],some (t,.own i r sz e es),none,some (i,r,sz,e),[],mt,mb,[i]⟩))) else dflt
      |_,_=>dflt)
     |some (.d (.v (.slice none 0 0))),some ux=>(match ux.asSl sz with
      |some (m,ds)=>dO T t (fun κ=>NApp 0 0 m [] ds (fun r es=>k ⟨[],some (t,.own κ r sz e es),none,some (κ,r,sz,e),[κ],[],[],[]⟩))
      |none=>dflt)
     |_,_=>dflt) else dflt
    |none=>dflt)
   |_=>dflt)
 |_,_=>dflt
noncomputable def aA (k:Nat) (ds:List D) (tm:TM) (K:TM→Prop):Prop:=
 @List.rec (Nat×AV) (fun _=>(TM→Prop)→Prop) (fun K=>K []) (fun p _ ih K=>match p with
  |(j,.d x)=>ih (fun r=>K ((j,.d x)::r))
  |(j,.ptr a o)=>bif Nat.beq a k then ih (fun r=>K ((j,.d (.cp false (ds.drop o)))::r)) else ih (fun r=>K ((j,.ptr a o)::r))
  |(j,.own i n sz e cs)=>ih (fun r=>K ((j,.own i n sz e cs)::r))
  |(j,u)=>ih (fun r=>K ((j,u.frz k ds)::r))) tm K
theorem G5 {k:Nat} {ds:List D}:∀{tm:TM} {K:TM→Prop},aA k ds tm K→K (frT k ds tm)
 |[],_,h=>h
 |(j,u)::r,K,h=>by
  have h':(match((j,u):Nat×AV) with
   |(j,.d x)=>aA k ds r (fun r=>K ((j,.d x)::r))
   |(j,.ptr a o)=>bif Nat.beq a k then aA k ds r (fun r=>K ((j,.d (.cp false (ds.drop o)))::r)) else aA k ds r (fun r=>K ((j,.ptr a o)::r))
   |(j,.own i n sz e cs)=>aA k ds r (fun r=>K ((j,.own i n sz e cs)::r))
   |(j,u)=>aA k ds r (fun r=>K ((j,u.frz k ds)::r))):=h
  cases u with
  |ptr a o=>
   simp only at h'
   cases hb:Nat.beq a k with
   |true=>
    rw[hb] at h'
    have:=G5 h'
    simpa only[frT,AV.frz,hb] using this
   |false=>
    rw[hb] at h'
    have:=G5 h'
    simpa only[frT,AV.frz,hb] using this
  |d x=>exact G5 (K:=fun r=>K ((j,.d x)::r)) h'
  |own i n sz e cs=>exact G5 (K:=fun r=>K ((j,.own i n sz e cs)::r)) h'
  |agg cs=>exact G5 (K:=fun r=>K ((j,(AV.agg cs).frz k ds)::r)) h'
  |tup cs=>exact G5 (K:=fun r=>K ((j,(AV.tup cs).frz k ds)::r)) h'
  |sem φ=>exact G5 (K:=fun r=>K ((j,(AV.sem φ).frz k ds)::r)) h'
  |cl f fs cs=>exact G5 (K:=fun r=>K ((j,(AV.cl f fs cs).frz k ds)::r)) h'
  |pk a o n sz=>exact G5 (K:=fun r=>K ((j,(AV.pk a o n sz).frz k ds)::r)) h'
noncomputable def fzL (l:List Operand):TM→BX→(TM→BX→Prop)→Prop:=
 @List.rec Operand (fun _=>TM→BX→(TM→BX→Prop)→Prop) (fun tm bx K=>K tm bx) (fun x _ ih tm bx K=>match evT tm x with
  |some (.ptr k _)=>(match lk k bx with
   |some cs=>(match Ew cs with
    |some ds=>Dm ds (fun ds=>aA k ds tm (fun tm'=>Dm (frB k ds bx) (fun bx'=>ih tm' bx' K)))
    |none=>False)
   |none=>False)
  |_=>ih tm bx K) l
noncomputable def KW (o:Oper) (tm:TM) (bx:BX) (K:TM→BX→Prop):Prop:=
 match o.op with
 | .makeFunc (.func f) _ captured=>bif Ln f T.mu then K tm bx else fzL captured.toList tm bx K
 |_=>K tm bx
noncomputable def kI (o:Oper) (tm:TM) (bx:BX) (tk:TK) (K:KS):Prop:=
 KW T o tm bx fun tm bx=>sQ P C T o tm bx (fun it=>bif dP it.cr tm bx&&dQ it.ex it tm bx then Z8 it tm bx tk K else False) (FB C T o tm bx tk K (NStep P C o tm bx tk K))
def KX (ops:List Oper) (o:Oper) (tm:TM) (run skip:TM→Prop):Prop:=
 match o.guard with
 |none=>run tm
 |some (j,b)=>(match ops[j]? with
  |some oj=>(match oj.dst with
   |some s=>(match lk s tm with
    |some (.d (.v (.bool c)))=>bif Nat.blt s 1000000 then NBr c ((bif b then run else skip) ((s,.d (.v (.bool true)))::tm)) ((bif b then skip else run) ((s,.d (.v (.bool false)))::tm)) else False
    |some (.d (.v (.tuple _)))=>bif Nat.blt s 1000000 then skip tm else False
    |_=>False)
   |none=>False)
  |none=>False)
noncomputable def Ig (ops:List Oper) (l:List Oper):TM→BX→TK→KS→Prop:=
 @List.rec Oper (fun _=>TM→BX→TK→KS→Prop) (fun tm bx tk K=>K tm bx tk)
  (fun o _ ih tm bx tk K=>KX ops o tm (fun tm=>kI P C T o tm bx tk (fun tm bx tk=>ih tm bx tk K))
    (fun tm=>match o.dst with
      |some s=>bif Nat.blt s C.N then ih ((s,.d (.v undef))::tm) bx tk K else False
      |none=>ih tm bx tk K)) l
noncomputable def kJ (ops:List Oper) (l:List Oper):TM→BX→TK→(List It→KS)→(List It→Oper→KS)→Prop:=
 @List.rec Oper (fun _=>TM→BX→TK→(List It→KS)→(List It→Oper→KS)→Prop) (fun tm bx tk K _=>K [] tm bx tk)
  (fun o rest ih tm bx tk K KL=>
    (fun(run skip:Prop)=>match o.guard with
      |none=>run
      |some (j,b)=>(match ops[j]? with
       |some oj=>(match oj.dst with
        |some s=>(match lk s tm with
         |some (.d (.v (.bool c)))=>bif Nat.blt s 1000000 then NBr c (bif b then run else skip) (bif b then skip else run) else False
         |some (.d (.v (.tuple _)))=>bif Nat.blt s 1000000 then skip else False
         |_=>False)
        |none=>False)
       |none=>False))
    (sQ P C T o tm bx (fun it=>Z8 it tm bx tk (fun tm bx tk=>ih tm bx tk (fun its=>K (it::its)) (fun its=>KL (it::its)))) (match rest with
      |[]=>KL [] o tm bx tk
      |_::_=>Z9 C T o tm bx tk (fun it=>Z8 it tm bx tk (fun tm bx tk=>ih tm bx tk (fun its=>K (it::its)) (fun its=>KL (it::its)))) (NLa P C o tm bx tk (fun it=>Z8 it tm bx tk (fun tm bx tk=>ih tm bx tk (fun its=>K (it::its)) (fun its=>KL (it::its)))))))
    (match o.dst with
      |some s=>bif Nat.blt s C.N then ih ((s,.d (.v undef))::tm) bx tk (fun its=>K (⟨[],some (s,.d (.v undef)),none,none,[],[],[],[]⟩::its)) (fun its=>KL (⟨[],some (s,.d (.v undef)),none,none,[],[],[],[]⟩::its)) else False
      |none=>ih tm bx tk (fun its=>K (⟨[],none,none,none,[],[],[],[]⟩::its)) (fun its=>KL (⟨[],none,none,none,[],[],[],[]⟩::its)))) l
def kK (tm:TM) (c:Operand) (a b:TM→Prop):Prop:=
 match c with
 | .tmp t=>(match evT tm (.tmp t) with
   |some (.d (.v (.bool v)))=>NBr v (a ((t,.d (.v (.bool true)))::tm)) (b ((t,.d (.v (.bool false)))::tm))
   |_=>False)
 | .const (.bool v)=>NBr v (a tm) (b tm)
 |_=>False
noncomputable def I7 (c:Code):KS→(Nat→KS)→KS→KS:=
 @Code.rec (fun _=>KS→(Nat→KS)→KS→KS)
  (fun kn _ _=>kn)
  (fun _ ops draw kn _ _ tm bx tk=>bif draw then kJ P C T ops.toList ops.toList tm bx tk (fun its tm' bx' tk'=>NFact (I0 ops=true∧Z2 ops.toList its ⟨tm,bx,tk⟩=true) (kn tm' bx' tk')) (fun its o tm' bx' tk'=>NFact (I0 ops=true∧Th ops.toList.dropLast o its ⟨tm,bx,tk⟩=true) (Ig P C T ops.toList [o] tm' bx' tk' kn)) else Ig P C T ops.toList ops.toList tm bx tk kn)
  (fun _ _ ihx ihy kn ke kr=>ihx (ihy kn ke kr) ke kr)
  (fun c _ _ iht ihe kn ke kr tm bx tk=>kK tm c (fun tm=>iht kn ke kr tm bx tk) (fun tm=>ihe kn ke kr tm bx tk))
  (fun id _ ih kn ke kr=>ih kn (fun id'=>bif Nat.beq id' id then kn else ke id') kr)
  (fun _ ih _ ke kr tm bx tk=>NLoop tm bx tk (fun kn=>ih kn ke kr))
  (fun f ps a b _ _ kn ke kr tm bx tk=>NCode P C (.rangeFunc f ps a b) tm bx tk kn ke kr)
  (fun id _ ke _=>ke id)
  (fun _ ih=>ih)
  (fun _ kn _ _=>kn)
  (fun _ _ _ _ _ _ _=>False)
  (fun _ _ kr=>kr)
  (fun _ _ _ _ _ _ _=>False) c
noncomputable def sR (tm:TM) (bx:BX) (rs:List ResultVar) (K:List AV→Prop):Prop:=
 @List.rec ResultVar (fun _=>(List AV→Prop)→Prop) (fun K=>K []) (fun r _ ih K=>match r with
  | .tmp t=>(match evT tm (.tmp t) with
    |some u=>ih (fun us=>K (u::us))
    |none=>False)
  | .cell p ty=>(match evT tm (.tmp p),lk ty T.ty with
    |some (.ptr b off),some (d,_,sz,_)=>(match lk b bx with
     |some cs=>bif Jm d then Dm ((cs.drop off).take sz) (fun us'=>bif Nat.beq us'.length sz then ih (fun us=>K (.agg us'::us)) else False) else(match cs[off]? with
      |some u=>ih (fun us=>K (u::us))
      |none=>False)
     |none=>False)
    |_,_=>False)) rs K
def OR (tm:TM) (bx:BX) (tk:TK) (Φ:AV→Prop) (us:List AV):Prop:=
 match us with
 |[u]=>NEnd tm bx tk u Φ
 |us=>NEnd tm bx tk (.tup us) Φ
noncomputable def kL (rs:Array ResultVar) (Φ:AV→Prop):KS:=fun tm bx tk=>sR T tm bx rs.toList (OR tm bx tk Φ)
end
section
variable {P:Program} {C:Cx} {T:Tab} {o:Oper} {tm:TM} {bx:BX} {tk:TK} {k:It→Prop} {dflt:Prop}
theorem aB {dst:Option Nat} {x:Operand} (h:sP C tm dst x k dflt):(∃t u,dst=some t∧t<C.N∧AS.eval ⟨tm,bx,tk⟩ x=some u∧k ⟨[],some (t,u),none,none,[],[],[],[]⟩)∨dflt:=by
 unfold sP at h
 split at h
 ·rename_i u hu
  rcases D8 h with⟨t,h1,h2,h3⟩|h
  ·exact .inl ⟨t,u,h1,h2,Bo hu,h3⟩
  ·exact .inr h
 ·exact .inr h
theorem FC {op:BinOp} {p p':IntKind} {m n:Int} {xt:TypeId} {x y:Operand} {kz:Value→Prop} (h:xF op p p' m n kz dflt):(∃z,(∀w,(do eqGuard op xt x y (.int p m) (.int p' n);binOp op xt (.int p m) (.int p' n):Sem Value).run P w= .ok z w)∧kz z)∨dflt:=by
 unfold xF at h
 cases hs:Oq p p' with
 |true=>
  obtain rfl:=xE hs
  simp only[hs,cond_true] at h
  split at h
  case h_1=>exact .inl ⟨_,fun w=>by simp[eqGuard,binOp,Op.intArith,go_sem],h.h _ rfl⟩
  case h_2=>exact .inl ⟨_,fun w=>by simp[eqGuard,binOp,Op.intArith,go_sem],h.h _ rfl⟩
  case h_3=>exact .inl ⟨_,fun w=>by simp[eqGuard,binOp,Op.intArith,go_sem],h.h _ rfl⟩
  case h_4=>exact .inl ⟨_,fun w=>by simp[eqGuard,binOp,Op.intBits,go_sem],h.h _ rfl⟩
  case h_5=>exact .inl ⟨_,fun w=>by simp[eqGuard,binOp,Op.intBits,go_sem],h.h _ rfl⟩
  case h_6=>exact .inl ⟨_,fun w=>by have:=h.h;simp[eqGuard,binOp,Op.intDiv,go_sem,this],h.k.h _ rfl⟩
  case h_7=>exact .inl ⟨_,fun w=>by have:=h.h;simp[eqGuard,binOp,Op.intDiv,go_sem,this],h.k.h _ rfl⟩
  case h_8=>exact .inl ⟨_,fun w=>by have:=h.h;simp[eqGuard,binOp,Op.shift,go_sem,Int.not_lt.2 this],h.k.h _ rfl⟩
  case h_9=>exact .inl ⟨_,fun w=>by have:=h.h;simp[eqGuard,binOp,Op.shift,go_sem,Int.not_lt.2 this],h.k.h _ rfl⟩
  case h_10=>
   split at h
   ·rename_i z hz
    refine .inl ⟨z,fun w=> ?_,h⟩
    cases op<;>simp only[OQ,Option.some.injEq,reduceCtorEq] at hz<;>subst hz<;>simp[eqGuard,binOp,Op.intArith,Op.intCmp,Op.intBits,go_sem]
   ·exact .inr h
 |false=>
  simp only[hs,cond_false] at h
  split at h
  case h_8=>exact .inl ⟨_,fun w=>by have:=h.h;simp[eqGuard,binOp,Op.shift,go_sem,Int.not_lt.2 this],h.k.h _ rfl⟩
  case h_9=>exact .inl ⟨_,fun w=>by have:=h.h;simp[eqGuard,binOp,Op.shift,go_sem,Int.not_lt.2 this],h.k.h _ rfl⟩
  all_goals exact .inr h
theorem FD (hT:TabOk P T) {op:BinOp} {p q:Value} {xt:TypeId} {x y:Operand} {kz:Value→Prop} (h:xG T op xt p q kz dflt):(∃z,(∀w,(do eqGuard op xt x y p q;binOp op xt p q:Sem Value).run P w= .ok z w)∧kz z)∨dflt:=by
 unfold xG at h
 split at h
 ·exact FC h
 ·rename_i a b
  split at h
  ·rename_i hl
   have hu:=(hT.ty hl).u
   split at h
   ·exact .inl ⟨_,fun w=>by simp[eqGuard,binOp,dK a b hu],h⟩
   ·exact .inl ⟨_,fun w=>by simp[eqGuard,binOp,dK a b hu],h⟩
   ·exact .inr h
  ·exact .inr h
 ·rename_i l m
  split at h
  ·exact .inl ⟨_,fun w=>by simp[eqGuard,binOp,Op.stringOp,go_sem],h⟩
  ·exact .inl ⟨_,fun w=>by simp[eqGuard,binOp,Op.stringOp,go_sem],h⟩
  ·refine .inl ⟨_,fun w=> ?_,h.k⟩
   have hb:=h.h
   have h1:¬((l.length:Int)+(m.length:Int))>9223372036854775807:=by omega
   have h2:(⟨⟨l⟩⟩:ByteArray)++⟨⟨m⟩⟩=⟨(l++m).toArray⟩:=by
    apply ByteArray.ext
    simp
   have h3:(⟨⟨l⟩⟩:ByteArray).size=l.length:=rfl
   have h4:(⟨⟨m⟩⟩:ByteArray).size=m.length:=rfl
   have h5:IntKind.i64.max=9223372036854775807:=by decide
   simp only[eqGuard,binOp,Op.stringOp,h2,h3,h4,h5,Int.natCast_add,if_neg h1]
   rfl
  ·exact .inr h
 ·exact .inr h
theorem KY (hT:TabOk P T) {op:BinOp} {xt yt:TypeId} {x y:Operand} (ho:o.op= .binOp op xt x y yt) (h:KQ C T tm o.dst op xt x y k dflt):(∃it,LA P C o it ⟨tm,bx,tk⟩∧k it)∨dflt:=by
 unfold KQ at h
 split at h
 ·rename_i p q hp hq
  rcases FD hT (x:=x) (y:=y) h with⟨z,hz,h⟩|h
  ·rcases D8 h with⟨t,h1,h2,h3⟩|h
   ·exact .inl ⟨_,KM ho h1 h2 (Bo hp) (Bo hq) hz,h3⟩
   ·exact .inr h
  ·exact .inr h
 ·exact .inr h
theorem KZ {op:UnOp} {xt:TypeId} {x:Operand} (ho:o.op= .unOp op xt x) (h:KR C tm o.dst op x k dflt):(∃it,LA P C o it ⟨tm,bx,tk⟩∧k it)∨dflt:=by
 unfold KR at h
 split at h
 ·rename_i b hp
  rcases D8 h with⟨t,h1,h2,h3⟩|h
  ·exact .inl ⟨_,KK ho h1 h2 (Bo hp),h3⟩
  ·exact .inr h
 ·exact .inr h
theorem FE (hT:TabOk P T) {s d:TypeId} {x:Operand} (ho:o.op= .convert s d x) (h:xI C T tm o.dst s d x k dflt):(∃it,LA P C o it ⟨tm,bx,tk⟩∧k it)∨dflt:=by
 unfold xI at h
 split at h
 ·rename_i ux hux
  split at h
  ·rename_i ki _ _ _ hd
   split at h
   ·rename_i m e hs
    obtain⟨ds,_,_,_⟩:=e
    rcases D8 (h.h _ rfl) with⟨t,h1,h2,h3⟩|h
    ·exact .inl ⟨_,ES ho h1 h2 (hT.ty hs).u (hT.ty hd).u (Bo hux) rfl,h3⟩
    ·exact .inr h
   ·exact .inr h
  ·rename_i hd
   split at h
   ·rename_i hs
    split at h
    ·rcases D8 h with⟨t,h1,h2,h3⟩|h
     ·exact .inl ⟨⟨[],some (t,.d (.v (.string _))),none,none,[],[],[],[]⟩,fun _ hTt _ _=>rY ho h1 h2 (hT.ty hs).u (hT.ty hd).u (tr hTt (by rw[ho];simp[Op.operands]) (Bo hux)),h3⟩
     ·exact .inr h
    ·exact .inr h
   ·rename_i e _ _ _ hs
    unfold xH at h
    split at h
    ·rename_i he
     split at h
     ·rename_i tg n cs hsl
      obtain⟨l,hl,h⟩:=h.h
      rcases D8 h with⟨t,h1,h2,h3⟩|h
      ·exact .inl ⟨_,KP ho h1 h2 (hT.ty hs).u (hT.ty he).u (hT.ty hd).u (Bo hux) hsl hl,h3⟩
      ·exact .inr h
     ·exact .inr h
    ·exact .inr h
   ·exact .inr h
  ·exact .inr h
 ·exact .inr h
theorem kM {x:Operand} {i:Nat} (ho:o.op= .extract x i) (h:Uw C tm o.dst x i k dflt):(∃it,LA P C o it ⟨tm,bx,tk⟩∧k it)∨dflt:=by
 unfold Uw at h
 split at h
 ·rename_i us hp
  split at h
  ·rename_i u hu
   rcases D8 h with⟨t,h1,h2,h3⟩|h
   ·exact .inl ⟨_,jV ho h1 h2 (Bo hp) hu,h3⟩
   ·exact .inr h
  ·exact .inr h
 ·exact .inr h
theorem FF (hT:TabOk P T) {ty:TypeId} {x:Operand} (ho:o.op= .load ty x) (h:xJ C T tm bx o.dst ty x k dflt):(∃it,LA P C o it ⟨tm,bx,tk⟩∧k it)∨dflt:=by
 unfold xJ at h
 split at h
 ·rename_i d z sz by' hty
  split at h
  ·rename_i b off hx
   split at h
   ·rename_i cs hcs
    cases hD:Jm d with
    |true=>
     rw[hD] at h
     have h:=Cc h
     cases hl:Nat.beq ((cs.drop off).take sz).length sz with
     |true=>
      rw[hl] at h
      rcases D8 h with⟨t,h1,h2,h3⟩|h
      ·exact .inl ⟨_,wP ho h1 h2 (Bo hx) hcs (hT.ty hty) hD rfl (Nat.eq_of_beq_eq_true hl),h3⟩
      ·exact .inr h
     |false=>rw[hl] at h;exact .inr h
    |false=>
     rw[hD] at h
     simp only[cond_false] at h
     split at h
     ·rename_i u hu
      rcases D8 h with⟨t,h1,h2,h3⟩|h
      ·exact .inl ⟨_,Z3 ho h1 h2 (Bo hx) hcs (hT.ty hty) hD hu,h3⟩
      ·exact .inr h
     ·exact .inr h
   ·exact .inr h
  ·rename_i tg ds hx
   cases hD:Jm d with
   |true=>
    rw[hD] at h
    simp only[cond_true] at h
    cases hl:Nat.beq ds.length sz with
    |true=>
     rw[hl] at h
     have h:=Cc h
     rcases D8 h with⟨t,h1,h2,h3⟩|h
     ·exact .inl ⟨_,sL ho h1 h2 (Bo hx) (hT.ty hty) hD (Nat.eq_of_beq_eq_true hl) rfl,h3⟩
     ·exact .inr h
    |false=>rw[hl] at h;exact .inr h
   |false=>
    rw[hD] at h
    simp only[cond_false] at h
    split at h
    ·rename_i u r
     rcases D8 h with⟨t,h1,h2,h3⟩|h
     ·exact .inl ⟨_,dJ ho h1 h2 (Bo hx) (hT.ty hty) hD rfl,h3⟩
     ·exact .inr h
    ·exact .inr h
  ·exact .inr h
 ·exact .inr h
theorem xS (hT:TabOk P T) {ty:TypeId} {x y:Operand} (ho:o.op= .store ty x y) (h:kB T tm bx o.dst ty x y k dflt):(∃it,LA P C o it ⟨tm,bx,tk⟩∧k it)∨dflt:=by
 unfold kB at h
 split at h
 ·rename_i d z sz by' hd hty
  split at h
  ·rename_i b off u hx hy
   split at h
   ·rename_i cs hcs
    cases hc:(u.flat&&Nat.beq u.cells.length sz&&Nat.ble (off+sz) cs.length) with
    |true=>
     rw[hc] at h
     have h:=Cc h
     simp only[At] at hc
     exact .inl ⟨_,wQ ho hd (Bo hx) hcs (Bo hy) (hT.ty hty) hc.1.1 (Nat.eq_of_beq_eq_true hc.1.2) (leN hc.2),h⟩
    |false=>rw[hc] at h;exact .inr h
   ·exact .inr h
  ·exact .inr h
 ·exact .inr h
theorem xT (hT:TabOk P T) {ty:TypeId} (ho:o.op= .alloc ty) (h:kC C T o.dst ty k dflt):(∃it,LA P C o it ⟨tm,bx,tk⟩∧k it)∨dflt:=by
 unfold kC at h
 split at h
 ·rename_i t d z sz by' hd hty
  cases hc:Nat.blt t C.N with
  |true=>
   rw[hc] at h
   simp only[cond_true] at h
   obtain⟨κ,h⟩:=Nr h
   exact .inl ⟨_,wR ho hd (ltN hc) (hT.ty hty) rfl,Cc h⟩
  |false=>rw[hc] at h;exact .inr h
 ·exact .inr h
theorem LB (hT:TabOk P T) {ty:TypeId} {x:Operand} (ho:o.op= .box ty x) (h:KT C T tm o.dst ty x k dflt):(∃it,LA P C o it ⟨tm,bx,tk⟩∧k it)∨dflt:=by
 unfold KT at h
 split at h
 ·rename_i t e u hd hty hx
  obtain⟨d,z,sz,by'⟩:=e
  cases hc:(Nat.blt t C.N&&u.flat) with
  |true=>
   rw[hc] at h
   simp only[cond_true] at h
   simp only[At] at hc
   obtain⟨κ,h⟩:=Nr h
   cases hk:u.clean κ with
   |true=>rw[hk] at h;exact .inl ⟨_,KN ho hd (ltN hc.1) (Bo hx) (hT.ty hty) hc.2 hk,Cc h⟩
   |false=>rw[hk] at h;exact .inr h
  |false=>rw[hc] at h;exact .inr h
 ·exact .inr h
theorem aC (hT:TabOk P T) {ty:TypeId} {x:Operand} {i:Nat} (ho:o.op= .fieldAddr ty x i) (h:O4 C T tm o.dst ty x i k dflt):(∃it,LA P C o it ⟨tm,bx,tk⟩∧k it)∨dflt:=by
 unfold O4 at h
 split at h
 ·rename_i fl hfl
  split at h
  ·rename_i off sz ag hf
   cases hc:Nat.blt 0 sz with
   |true=>
    rw[hc] at h
    simp only[cond_true] at h
    split at h
    ·rename_i b p hx
     rcases D8 h with⟨t,h1,h2,h3⟩|h
     ·exact .inl ⟨_,Z4 ho h1 h2 (hT.fd hfl hf) (ltN hc) (Bo hx),h3⟩
     ·exact .inr h
    ·rename_i tg ds hx
     rcases D8 (Cc h) with⟨t,h1,h2,h3⟩|h
     ·exact .inl ⟨_,Xm ho h1 h2 (hT.fd hfl hf) (ltN hc) (Bo hx) rfl,h3⟩
     ·exact .inr h
    ·exact .inr h
   |false=>rw[hc] at h;exact .inr h
  ·exact .inr h
 ·exact .inr h
theorem xU (hT:TabOk P T) {ty:TypeId} {x:Operand} {i:Nat} (ho:o.op= .field ty x i) (h:kD C T tm o.dst ty x i k dflt):(∃it,LA P C o it ⟨tm,bx,tk⟩∧k it)∨dflt:=by
 unfold kD at h
 split at h
 ·rename_i fl hfl
  split at h
  ·rename_i off sz ag hf
   split at h
   ·rename_i us hx
    cases ag with
    |true=>
     have h:=Cc h
     rcases D8 h with⟨t,h1,h2,h3⟩|h
     ·exact .inl ⟨_,sM ho h1 h2 (hT.fd hfl hf) (Bo hx) rfl,h3⟩
     ·exact .inr h
    |false=>
     simp only[cond_false] at h
     split at h
     ·rename_i u hu
      rcases D8 h with⟨t,h1,h2,h3⟩|h
      ·exact .inl ⟨_,wS ho h1 h2 (hT.fd hfl hf) (Bo hx) hu,h3⟩
      ·exact .inr h
     ·exact .inr h
   ·exact .inr h
  ·exact .inr h
 ·exact .inr h
theorem xV (hT:TabOk P T) {ty:TypeId} {ps:Array (Nat×Operand)} (ho:o.op= .build ty ps) (h:kE C T tm o.dst ty ps k dflt):(∃it,LA P C o it ⟨tm,bx,tk⟩∧k it)∨dflt:=by
 unfold kE at h
 split at h
 ·rename_i d z sz by' pl hty hst
  rcases Z7 (bx:=bx) (tk:=tk) h with⟨us,h1,h⟩|h
  ·split at h
   ·rename_i cs hcs
    rcases D8 (Cc h) with⟨t,k1,k2,k3⟩|h
    ·exact .inl ⟨_,wT ho k1 k2 (hT.ty hty) (hT.st hst) rfl h1 hcs,k3⟩
    ·exact .inr h
   ·exact .inr h
  ·exact .inr h
 ·exact .inr h
theorem FG (hT:TabOk P T) {st:TypeId} {n:Nat} {ps:Array (Nat×Operand)} (ho:o.op= .buildSlice st n ps) (h:xK C T tm o.dst st n ps k dflt):(∃it,LA P C o it ⟨tm,bx,tk⟩∧k it)∨dflt:=by
 unfold xK at h
 split at h
 ·rename_i t e z0 sz0 by0 hd hst
  split at h
  ·rename_i d z sz by' he
   cases hc:(Nat.blt t C.N&&Nat.ble (n*sz) 1000&&Nat.ble n 1000) with
   |true=>
    rw[hc] at h
    simp only[At] at hc
    rcases Z7 (bx:=bx) (tk:=tk) h with⟨us,h1,h⟩|h
    ·split at h
     ·rename_i cs hcs
      split at h
      ·rename_i ds hds
       cases ho1:Mh cs with
       |true=>
        rw[ho1] at h
        simp only[cond_true] at h
        obtain⟨κ,h⟩:=Nr h
        exact .inl ⟨_,ET ho hd (ltN hc.1.1) (hT.ty hst) (hT.ty he) h1 hcs hds ho1 (leN hc.1.2) (leN hc.2),Cc h⟩
       |false=>rw[ho1] at h;exact .inr h
      ·exact .inr h
     ·exact .inr h
    ·exact .inr h
   |false=>rw[hc] at h;exact .inr h
  ·exact .inr h
 ·exact .inr h
theorem FH (hT:TabOk P T) {st:TypeId} {x y:Operand} (ho:o.op= .indexAddr st x y) (h:xL C T tm o.dst st x y k dflt):(∃it,LA P C o it ⟨tm,bx,tk⟩∧k it)∨dflt:=by
 unfold xL at h
 split at h
 ·rename_i e z0 sz0 by0 hst
  split at h
  ·rename_i d z sz by' he
   cases hc:Nat.blt 0 sz with
   |true=>
    rw[hc] at h
    simp only[cond_true] at h
    split at h
    ·rename_i ux ik j hx hy
     split at h
     ·rename_i tg n cs hux
      obtain⟨i,ds,e1,e2,e3,h⟩:=h.h
      rcases D8 h with⟨t,k1,k2,k3⟩|h
      ·exact .inl ⟨_,wU ho k1 k2 (hT.ty hst).u (hT.ty he) (Bo hx) hux (Bo hy) e1 e2 (ltN hc) e3,k3⟩
      ·exact .inr h
     ·exact .inr h
    ·exact .inr h
   |false=>rw[hc] at h;exact .inr h
  ·exact .inr h
 ·exact .inr h
theorem LC (hT:TabOk P T) {st:TypeId} {x y:Operand} (ho:o.op= .index st x y) (h:KU C T tm o.dst st x y k dflt):(∃it,LA P C o it ⟨tm,bx,tk⟩∧k it)∨dflt:=by
 unfold KU at h
 split at h
 ·rename_i hst
  split at h
  ·rename_i l ik j hx hy
   obtain⟨i,b,e1,e2,h⟩:=h.h
   rcases D8 h with⟨t,k1,k2,k3⟩|h
   ·exact .inl ⟨_,EU ho k1 k2 (hT.ty hst).u (Bo hx) (Bo hy) e1 e2,k3⟩
   ·exact .inr h
  ·exact .inr h
 ·exact .inr h
theorem P8 {x:Option Operand} {d:Nat} {K:Int→Prop} (h:kF tm x d K dflt):(∃z,(∀n:Nat,z=(n:Int)→Bnd ⟨tm,bx,tk⟩ x d n)∧K z)∨dflt:=by
 unfold kF at h
 split at h
 ·exact .inl ⟨_,fun n hn=>by unfold Bnd;omega,h⟩
 ·split at h
  ·rename_i ik z hx
   exact .inl ⟨z,fun n hn=>⟨_,z,Bo hx,hn⟩,h⟩
  ·exact .inr h
theorem xW (hT:TabOk P T) {st:TypeId} {x:Operand} {ol oh om:Option Operand} (ho:o.op= .slice st x ol oh om) (h:kG C T tm o.dst st x ol oh om k dflt):(∃it,LA P C o it ⟨tm,bx,tk⟩∧k it)∨dflt:=by
 unfold kG at h
 split at h
 ·rename_i e z0 sz0 by0 hst
  split at h
  ·rename_i d z sz by' he
   split at h
   ·rename_i ux hx
    split at h
    ·rename_i tg n cs hux
     split at h
     ·exact .inr h
     ·rename_i hno
      rcases P8 (bx:=bx) (tk:=tk) h with⟨lo,b1,h⟩|h
      ·rcases P8 (bx:=bx) (tk:=tk) h with⟨hi,b2,h⟩|h
       ·rcases P8 (bx:=bx) (tk:=tk) h with⟨mx,b3,h⟩|h
        ·obtain⟨l',h',m',r,ds,e1,e2,e3,e4,e5,e6,rfl,e7,h⟩:=h.h
         rcases D8 h with⟨t,k1,k2,k3⟩|h
         ·refine .inl ⟨_,wV ho k1 k2 (hT.ty hst).u (hT.ty he) (Bo hx) hux (b1 _ e1) (b2 _ e2) (b3 _ e3) (fun hn=> ?_) e4 e5 e6 e7,k3⟩
          cases om with
          |none=>rfl
          |some m=>exact absurd rfl (hno m hn)
         ·exact .inr h
        ·exact .inr h
       ·exact .inr h
      ·exact .inr h
    ·exact .inr h
   ·exact .inr h
  ·exact .inr h
 ·rename_i hst
  split at h
  ·rename_i l hx
   rcases P8 (bx:=bx) (tk:=tk) h with⟨lo,b1,h⟩|h
   ·rcases P8 (bx:=bx) (tk:=tk) h with⟨hi,b2,h⟩|h
    ·obtain⟨l',h',r,e1,e2,e4,e5,e7,h⟩:=h.h
     rcases D8 h with⟨t,k1,k2,k3⟩|h
     ·exact .inl ⟨⟨[],some (t,.d (.v (.string ⟨r.toArray⟩))),none,none,[],[],[],[]⟩,fun _ hTt _ _=>dC ho k1 k2 (hT.ty hst).u (tr hTt (by rw[ho];simp[Op.operands]) (Bo hx)) (trB hTt (fun y e=>by rw[ho,e];simp[Op.operands]) (b1 _ e1)) (trB hTt (fun y e=>by rw[ho,e];simp[Op.operands]) (b2 _ e2)) e4 e5 e7,k3⟩
     ·exact .inr h
    ·exact .inr h
   ·exact .inr h
  ·exact .inr h
 ·exact .inr h
theorem aD {dst:Option Nat} {r:AV} (h:xM C T dst r k dflt):(∃t κ,dst=some t∧t<C.N∧k ⟨[],some (t,r.ren κ),none,r.tok.map fun x=>(κ,x),[κ],[],[],[]⟩)∨dflt:=by
 unfold xM at h
 split at h
 ·rename_i t
  cases hc:Nat.blt t C.N with
  |true=>
   rw[hc] at h
   simp only[cond_true] at h
   obtain⟨κ,h⟩:=Nr h
   refine .inl ⟨t,κ,rfl,ltN hc,?_⟩
   cases r with
   |own=>exact h
   |tup us=>
    cases us with
    |nil=>exact h
    |cons u r=>cases u<;>exact h
   |d=>exact h
   |ptr=>exact h
   |agg=>exact h
   |sem=>exact h
   |cl=>exact h
   |pk=>exact h
  |false=>rw[hc] at h;exact .inr h
 ·exact .inr h
theorem FI (hT:TabOk P T) {c:Call} (ho:o.op= .call c) (h:xN P C T tm o.dst c k dflt):(∃it,LA P C o it ⟨tm,bx,tk⟩∧k it)∨dflt:=by
 unfold xN at h
 split at h
 ·rename_i f args ats
  cases hmu:Ln f T.mu with
  |true=>rw[hmu] at h;exact .inr h
  |false=>
  rw[hmu] at h
  rcases Nq (bx:=bx) (tk:=tk) h with⟨us,h1,h⟩|h
  ·cases hn:AV.noPtrs us with
   |true=>
    rw[hn] at h
    obtain⟨r,hr,h⟩:=h.h
    rcases aD h with⟨t,κ,k1,k2,k3⟩|h
    ·exact .inl ⟨_,EW ho k1 k2 h1 hn rfl hr,k3⟩
    ·exact .inr h
   |false=>rw[hn] at h;exact .inr h
  ·exact .inr h
 ·rename_i s args ats
  split at h
  ·rename_i f caps hs
   cases hmu:Ln f T.mu with
   |true=>rw[hmu] at h;exact .inr h
   |false=>
   rw[hmu] at h
   rcases Nq (bx:=bx) (tk:=tk) h with⟨us,h1,h⟩|h
   ·cases hn:AV.noPtrs us with
    |true=>
     rw[hn] at h
     obtain⟨r,hr,h⟩:=h.h
     rcases aD h with⟨t,κ,k1,k2,k3⟩|h
     ·exact .inl ⟨_,wW ho k1 k2 (Bo hs) h1 hn rfl hr,k3⟩
     ·exact .inr h
    |false=>rw[hn] at h;exact .inr h
   ·exact .inr h
  ·rename_i f fs cs hs
   cases hmu:Ln f T.mu with
   |true=>rw[hmu] at h;exact .inr h
   |false=>
   rw[hmu] at h
   rcases Nq (bx:=bx) (tk:=tk) h with⟨us,h1,h⟩|h
   ·cases hn:(AV.noPtrs fs&&AV.noPtrs us&&AV.noPtrs cs) with
    |true=>
     rw[hn] at h
     obtain⟨r,hr,h⟩:=h.h
     rcases aD h with⟨t,κ,k1,k2,k3⟩|h
     ·exact .inl ⟨_,xA ho k1 k2 (Bo hs) h1 hn rfl hr,k3⟩
     ·exact .inr h
    |false=>rw[hn] at h;exact .inr h
   ·exact .inr h
  ·exact .inr h
 ·rename_i x st
  split at h
  ·rename_i l hst hx
   rcases D8 h with⟨t,k1,k2,k3⟩|h
   ·exact .inl ⟨_,EV ho k1 k2 (hT.ty hst).u (Bo hx),k3⟩
   ·exact .inr h
  ·rename_i e z0 sz0 by0 ux hst hx
   split at h
   ·rename_i d z sz by' he
    split at h
    ·rename_i tg n cs hux
     rcases D8 h with⟨t,k1,k2,k3⟩|h
     ·exact .inl ⟨_,KO ho k1 k2 (hT.ty hst).u (Bo hx) hux,k3⟩
     ·exact .inr h
    ·exact .inr h
   ·exact .inr h
  ·exact .inr h
 ·exact .inr h
theorem FJ {f:FuncId} {first captured:Array Operand} (ho:o.op= .makeFunc (.func f) first captured) (h:xO C tm o.dst f first captured k dflt):(∃it,LA P C o it ⟨tm,bx,tk⟩∧k it)∨dflt:=by
 unfold xO at h
 rcases Nq (bx:=bx) (tk:=tk) h with⟨fs,h1,h⟩|h
 ·rcases Nq (bx:=bx) (tk:=tk) h with⟨cs,h2,h⟩|h
  ·rcases D8 h with⟨t,k1,k2,k3⟩|h
   ·exact .inl ⟨_,dL ho k1 k2 h1 h2,k3⟩
   ·exact .inr h
  ·exact .inr h
 ·exact .inr h
theorem nV (hT:TabOk P T) (h:sQ P C T o tm bx k dflt):(∃it,LA P C o it ⟨tm,bx,tk⟩∧k it)∨dflt:=by
 unfold sQ at h
 split at h
 ·rename_i x ho
  rcases aB (bx:=bx) (tk:=tk) h with⟨t,u,h1,h2,h3,h4⟩|h
  ·exact .inl ⟨_,ER ho h1 h2 h3,h4⟩
  ·exact .inr h
 ·rename_i x ho
  rcases aB (bx:=bx) (tk:=tk) h with⟨t,u,h1,h2,h3,h4⟩|h
  ·exact .inl ⟨_,sK ho h1 h2 h3,h4⟩
  ·exact .inr h
 ·rename_i c x y ho
  split at h
  ·rename_i b hc
   cases hb:b with
   |true=>
    rcases aB (bx:=bx) (tk:=tk) (h.t hb) with⟨t,u,h1,h2,h3,h4⟩|h
    ·exact .inl ⟨_,nS (b:=true) ho h1 h2 (Bo hc) hb h3,h4⟩
    ·exact .inr h
   |false=>
    rcases aB (bx:=bx) (tk:=tk) (h.f hb) with⟨t,u,h1,h2,h3,h4⟩|h
    ·exact .inl ⟨_,nS (b:=false) ho h1 h2 (Bo hc) hb h3,h4⟩
    ·exact .inr h
  ·exact .inr h
 ·rename_i ho;exact KY hT ho h
 ·rename_i ho;exact KZ ho h
 ·rename_i ho;exact FE hT ho h
 ·rename_i ho;exact kM ho h
 ·rename_i ho;exact FF hT ho h
 ·rename_i ho;exact xS hT ho h
 ·rename_i ho;exact xT hT ho h
 ·rename_i ho;exact LB hT ho h
 ·rename_i ho;exact aC hT ho h
 ·rename_i ho;exact xU hT ho h
 ·rename_i ho;exact xV hT ho h
 ·rename_i ho;exact FG hT ho h
 ·rename_i ho;exact FH hT ho h
 ·rename_i ho;exact LC hT ho h
 ·rename_i ho;exact xW hT ho h
 ·rename_i ho;exact FI hT ho h
 ·rename_i ho;exact FJ ho h
 ·exact .inr h
end
section
variable {P:Program} {C:Cx} {T:Tab} {o:Oper} {tm:TM} {bx:BX} {tk:TK} {k:It→Prop} {dflt:Prop}
def dR (P:Program) (C:Cx) (o:Oper) (tm:TM) (bx:BX) (tk:TK) (K:KS):Prop:=∃S,Ic P C o ⟨tm,bx,tk⟩ S∧∀σ',S σ'→K σ'.tm σ'.bx σ'.tk
theorem Tj {σ':AS} {K:KS} (h:Bp P C o ⟨tm,bx,tk⟩ σ') (hK:K σ'.tm σ'.bx σ'.tk):dR P C o tm bx tk K:=
 ⟨fun x=>x=σ',fun a w hG K Q hK=>h a w hG K Q fun a' w' h'=>hK _ a' w' rfl h',fun x hx=>by subst hx;exact hK⟩
theorem OS (hT:TabOk P T) {K:KS} (h:FB C T o tm bx tk K dflt):dR P C o tm bx tk K∨dflt:=by
 unfold FB at h
 split at h
 ·rename_i s x st st' t ho hd
  split at h
  ·rename_i e z0 sz0 by0 hst
   split at h
   ·rename_i d z sz by' he
    cases hc:(Nat.blt t C.N&&Nat.beq st st'&&Nat.beq z.cells.toList.length sz&&Nat.blt 0 sz&&Nat.ble by' 1000) with
    |true=>
     rw[hc] at h
     simp only[cond_true] at h
     simp only[At] at hc
     obtain⟨⟨⟨⟨c1,c2⟩,c3⟩,c4⟩,c5⟩:=hc
     obtain rfl:=Nat.eq_of_beq_eq_true c2
     have hz:z.cells.size=sz:=Nat.eq_of_beq_eq_true c3
     split at h
     ·rename_i kk n sz' e' cs ux hs hx
      split at h
      ·rename_i n' sz'' e'' m ds hk hux
       cases hc2:(Nat.beq sz' sz&&Nat.beq sz'' sz&&Nat.beq e' e&&Nat.beq e'' e) with
       |true=>
        rw[hc2] at h
        simp only[cond_true] at h
        simp only[At] at hc2
        obtain⟨⟨⟨d1,d2⟩,d3⟩,d4⟩:=hc2
        obtain rfl:=Nat.eq_of_beq_eq_true d1
        obtain rfl:=Nat.eq_of_beq_eq_true d2
        obtain rfl:=Nat.eq_of_beq_eq_true d3
        obtain rfl:=Nat.eq_of_beq_eq_true d4
        obtain⟨rfl,h63,_,_,rfl,rfl,h⟩:=h.h
        exact .inl (Tj (Sm ho hd (ltN c1) (Bo hs) hk (Bo hx) hux (hT.ty hst).u (hT.ty he) hz (ltN c4) h63 (leN c5)) (FA (J8 h)))
       |false=>rw[hc2] at h;exact .inr h
      ·exact .inr h
     ·rename_i ux hs hx
      split at h
      ·rename_i m ds hux
       obtain⟨κ,h⟩:=Nr h
       cases hc2:(clT κ tm&&clB κ bx) with
       |true=>
        rw[hc2] at h
        obtain⟨-,h63,_,_,rfl,rfl,h⟩:=h.h
        rw[Nat.zero_add] at h63 h
        exact .inl (Tj (L4 ho hd (ltN c1) (Bo hs) hc2 (Bo hx) hux (hT.ty hst).u (hT.ty he) hz (ltN c4) h63 (leN c5)) h)
       |false=>rw[hc2] at h;exact .inr h
      ·exact .inr h
     ·exact .inr h
    |false=>rw[hc] at h;exact .inr h
   ·exact .inr h
  ·exact .inr h
 ·exact .inr h
theorem FK (hT:TabOk P T) {k:It→Prop} (h:Z9 C T o tm bx tk k dflt):(∃it,LA P C o it ⟨tm,bx,tk⟩∧k it)∨dflt:=by
 unfold Z9 at h
 split at h
 ·rename_i s x st st' t ho hd
  split at h
  ·rename_i e z0 sz0 by0 hst
   split at h
   ·rename_i d z sz by' he
    cases hc:(Nat.blt t C.N&&Nat.beq st st'&&Nat.beq z.cells.toList.length sz&&Nat.blt 0 sz&&Nat.ble by' 1000) with
    |true=>
     rw[hc] at h
     simp only[cond_true] at h
     simp only[At] at hc
     obtain⟨⟨⟨⟨c1,c2⟩,c3⟩,c4⟩,c5⟩:=hc
     obtain rfl:=Nat.eq_of_beq_eq_true c2
     have hz:z.cells.size=sz:=Nat.eq_of_beq_eq_true c3
     split at h
     ·rename_i kk n sz' e' cs ux hs hx
      split at h
      ·rename_i n' sz'' e'' m ds hk hux
       cases hc2:(Nat.beq sz' sz&&Nat.beq sz'' sz&&Nat.beq e' e&&Nat.beq e'' e) with
       |true=>
        rw[hc2] at h
        simp only[cond_true] at h
        simp only[At] at hc2
        obtain⟨⟨⟨d1,d2⟩,d3⟩,d4⟩:=hc2
        obtain rfl:=Nat.eq_of_beq_eq_true d1
        obtain rfl:=Nat.eq_of_beq_eq_true d2
        obtain rfl:=Nat.eq_of_beq_eq_true d3
        obtain rfl:=Nat.eq_of_beq_eq_true d4
        obtain⟨rfl,h63,_,_,rfl,rfl,h⟩:=h.h
        exact .inl ⟨_,sN ho hd (ltN c1) (Bo hs) hk (Bo hx) hux (hT.ty hst).u (hT.ty he) hz (ltN c4) h63 (leN c5),Cc (Cc h)⟩
       |false=>rw[hc2] at h;exact .inr h
      ·exact .inr h
     ·rename_i ux hs hx
      split at h
      ·rename_i m ds hux
       obtain⟨κ,h⟩:=Nr h
       obtain⟨-,h63,_,_,rfl,rfl,h⟩:=h.h
       rw[Nat.zero_add] at h63 h
       exact .inl ⟨_,Xn ho hd (ltN c1) (Bo hs) (Bo hx) hux (hT.ty hst).u (hT.ty he) hz (ltN c4) h63 (leN c5),h⟩
      ·exact .inr h
     ·exact .inr h
    |false=>rw[hc] at h;exact .inr h
   ·exact .inr h
  ·exact .inr h
 ·exact .inr h
theorem dR.ent {tm':TM} {bx':BX} {K:KS} (he:Ent ⟨tm,bx,tk⟩ ⟨tm',bx',tk⟩) (h:dR P C o tm' bx' tk K):dR P C o tm bx tk K:=by
 obtain⟨S,h1,h2⟩:=h
 exact⟨S,fun a w hG=>h1 a w (he C a w hG),h2⟩
theorem kN:∀{l:List Operand} {tm:TM} {bx:BX} {K:TM→BX→Prop},fzL l tm bx K→∃tm' bx',Ent ⟨tm,bx,tk⟩ ⟨tm',bx',tk⟩∧K tm' bx'
 |[],tm,bx,K,h=>⟨tm,bx,fun _ _ _ h=>h,h⟩
 |x::r,tm,bx,K,h=>by
  have h':(match evT tm x with
   |some (.ptr k _)=>(match lk k bx with
    |some cs=>(match Ew cs with
     |some ds=>Dm ds (fun ds=>aA k ds tm (fun tm'=>Dm (frB k ds bx) (fun bx'=>fzL r tm' bx' K)))
     |none=>False)
    |none=>False)
   |_=>fzL r tm bx K):=h
  clear h
  split at h'
  ·rename_i k off hx
   split at h'
   ·rename_i cs hcs
    split at h'
    ·rename_i ds hds
     obtain⟨tm',bx',e,hK⟩:=kN (Cc (G5 (Cc h')))
     exact⟨tm',bx',fun C a w hG=>e C a w (EX (σ:=⟨tm,bx,tk⟩) hcs hds C a w hG),hK⟩
    ·exact h'.elim
   ·exact h'.elim
  ·exact kN h'
theorem FL {K:TM→BX→Prop} (h:KW T o tm bx K):∃tm' bx',Ent ⟨tm,bx,tk⟩ ⟨tm',bx',tk⟩∧K tm' bx':=by
 unfold KW at h
 split at h
 ·rename_i f fs captured ho
  cases hmu:Ln f T.mu with
  |true=>rw[hmu] at h;exact⟨tm,bx,fun _ _ _ h=>h,h⟩
  |false=>rw[hmu] at h;exact kN h
 ·exact⟨tm,bx,fun _ _ _ h=>h,h⟩
theorem LD (hT:TabOk P T) {K:KS} (h:sQ P C T o tm bx (fun it=>bif dP it.cr tm bx&&dQ it.ex it tm bx then Z8 it tm bx tk K else False) (FB C T o tm bx tk K (NStep P C o tm bx tk K))):dR P C o tm bx tk K:=by
 rcases nV (tk:=tk) hT h with⟨it,h1,h⟩|h
 ·cases hc:(dP it.cr tm bx&&dQ it.ex it tm bx) with
  |true=>
   rw[hc] at h
   rw[At] at hc
   exact Tj (h1 _ (fun _ _=>rfl) (xR hc.2) (xQ hc.1)) (Ti h)
  |false=>rw[hc] at h;exact h.elim
 ·rcases OS hT h with h|h
  ·exact h
  ·exact h.h
theorem FM (hT:TabOk P T) {K:KS} (h:kI P C T o tm bx tk K):dR P C o tm bx tk K:=by
 unfold kI at h
 obtain⟨tm',bx',he,h⟩:=FL (tk:=tk) h
 exact dR.ent he (LD hT h)
theorem O5 (hT:TabOk P T) {ops:Array Oper} {Φ:Exit→AS→Prop} {K:KS} (hK:∀tm bx tk,K tm bx tk→Φ .normal ⟨tm,bx,tk⟩):∀{l:List Oper} {tm:TM} {bx:BX} {tk:TK},Ig P C T ops.toList l tm bx tk K→J7 P C ops Φ l ⟨tm,bx,tk⟩
 |[],tm,bx,tk,h=>wC (hK _ _ _ h)
 |o::r,tm,bx,tk,h=>by
  have h':KX ops.toList o tm (fun tm=>kI P C T o tm bx tk (fun tm bx tk=>Ig P C T ops.toList r tm bx tk K))
   (fun tm=>match o.dst with
     |some s=>bif Nat.blt s C.N then Ig P C T ops.toList r ((s,.d (.v undef))::tm) bx tk K else False
     |none=>Ig P C T ops.toList r tm bx tk K):=h
  clear h
  unfold KX at h'
  have run:∀tm,kI P C T o tm bx tk (fun tm bx tk=>Ig P C T ops.toList r tm bx tk K)→∃S,Ic P C o ⟨tm,bx,tk⟩ S∧∀σ',S σ'→J7 P C ops Φ r σ':=fun tm h=>by
   obtain⟨S,h1,h2⟩:=FM hT h
   exact⟨S,h1,fun σ' hs=>O5 hT hK (h2 σ' hs)⟩
  split at h'
  ·rename_i hg
   obtain⟨S,h1,h2⟩:=run tm h'
   exact jK hg h1 h2
  ·rename_i j b hg
   split at h'
   ·rename_i oj hj
    split at h'
    ·rename_i s hs
     split at h'
     ·rename_i c hc
      have hj':ops[j]?=some oj:=by rw[←Array.getElem?_toList];exact hj
      cases hsN:Nat.blt s 1000000 with
      |false=>rw[hsN] at h';exact h'.elim
      |true=>
      rw[hsN] at h'
      simp only[cond_true] at h'
      have hs6:=Xk hsN
      have both:∀(c':Bool),c=c'→(bif c' then(bif b then(fun tm=>kI P C T o tm bx tk (fun tm bx tk=>Ig P C T ops.toList r tm bx tk K)) else(fun tm=>match o.dst with
       |some s=>bif Nat.blt s C.N then Ig P C T ops.toList r ((s,.d (.v undef))::tm) bx tk K else False
       |none=>Ig P C T ops.toList r tm bx tk K)) ((s,.d (.v (.bool true)))::tm) else(bif b then(fun tm=>match o.dst with
       |some s=>bif Nat.blt s C.N then Ig P C T ops.toList r ((s,.d (.v undef))::tm) bx tk K else False
       |none=>Ig P C T ops.toList r tm bx tk K) else(fun tm=>kI P C T o tm bx tk (fun tm bx tk=>Ig P C T ops.toList r tm bx tk K))) ((s,.d (.v (.bool false)))::tm))→J7 P C ops Φ (o::r) ⟨tm,bx,tk⟩:=by
       intro c' hcc h
       refine jP (t:=s) (d:=c') hc hcc ?_
       have hl:lk s (AS.put ⟨tm,bx,tk⟩ s (.d (.v (.bool c')))).tm=some (.d (.v (.bool c'))):=Bs _ _ _
       have skip:∀b',c'= !b'→o.guard=some (j,b')→(match o.dst with
        |some q=>bif Nat.blt q C.N then Ig P C T ops.toList r ((q,.d (.v undef))::(s,.d (.v (.bool c')))::tm) bx tk K else False
        |none=>Ig P C T ops.toList r ((s,.d (.v (.bool c')))::tm) bx tk K)→J7 P C ops Φ (o::r) (AS.put ⟨tm,bx,tk⟩ s (.d (.v (.bool c')))):=by
        intro b' hb' hg' h
        split at h
        ·rename_i q hq
         cases hbl:Nat.blt q C.N with
         |true=>rw[hbl] at h;exact rS hg' hj' hs hl hs6 hb' hq (ltN hbl) (O5 hT hK h)
         |false=>rw[hbl] at h;exact h.elim
        ·rename_i hq
         exact jC hg' hj' hs hl hs6 hb' hq (O5 hT hK h)
       cases c' with
       |true=>
        cases b with
        |true=>obtain⟨S,h1,h2⟩:=run _ h;exact So hg hj' hs hl hs6 h1 h2
        |false=>exact skip false rfl hg h
       |false=>
        cases b with
        |true=>exact skip true rfl hg h
        |false=>obtain⟨S,h1,h2⟩:=run _ h;exact So hg hj' hs hl hs6 h1 h2
      cases hcc:c with
      |true=>exact both true hcc (h'.t hcc)
      |false=>exact both false hcc (h'.f hcc)
     ·rename_i x hx
      have hj':ops[j]?=some oj:=by rw[←Array.getElem?_toList];exact hj
      cases hsN:Nat.blt s 1000000 with
      |false=>rw[hsN] at h';exact h'.elim
      |true=>
       rw[hsN] at h'
       simp only[cond_true] at h'
       split at h'
       ·rename_i q hq
        cases hbl:Nat.blt q C.N with
        |true=>rw[hbl] at h';exact jD (σ:=⟨tm,bx,tk⟩) hg hj' hs hx (Xk hsN) hq (ltN hbl) (O5 hT hK h')
        |false=>rw[hbl] at h';exact h'.elim
       ·rename_i hq
        exact cW (σ:=⟨tm,bx,tk⟩) hg hj' hs hx (Xk hsN) hq (O5 hT hK h')
     ·exact h'.elim
    ·exact h'.elim
   ·exact h'.elim
def DrR (P:Program) (C:Cx) (ops:Array Oper) (l:List Oper) (σ:AS) (K:List It→KS) (KL:List It→Oper→KS):Prop:=
 (∃its,Scr P C ops l its σ∧K its (σ.addAll its).tm (σ.addAll its).bx (σ.addAll its).tk)∨∃l' o1 its,l=l'++[o1]∧Scr P C ops l' its σ∧KL its o1 (σ.addAll its).tm (σ.addAll its).bx (σ.addAll its).tk
theorem DrR.cons {ops:Array Oper} {r:List Oper} {σ:AS} {it:It} {K:List It→KS} {KL:List It→Oper→KS} (h:Oo P C ops o it σ) (k:DrR P C ops r (σ.add it) (fun its=>K (it::its)) (fun its=>KL (it::its))):DrR P C ops (o::r) σ K KL:=by
 rcases k with⟨its,h1,h2⟩|⟨l',o1,its,rfl,h1,h2⟩
 ·exact .inl ⟨it::its,.cons h h1,h2⟩
 ·exact .inr ⟨o::l',o1,it::its,rfl,.cons h h1,h2⟩
theorem Ss (hT:TabOk P T) {ops:Array Oper}:∀{l:List Oper} {tm:TM} {bx:BX} {tk:TK} {K:List It→KS} {KL:List It→Oper→KS},kJ P C T ops.toList l tm bx tk K KL→DrR P C ops l ⟨tm,bx,tk⟩ K KL
 |[],tm,bx,tk,K,KL,h=> .inl ⟨[],.nil,h⟩
 |o::r,tm,bx,tk,K,KL,h=>by
  obtain⟨run,hrun⟩:∃p,p=sQ P C T o tm bx (fun it=>Z8 it tm bx tk (fun tm bx tk=>kJ P C T ops.toList r tm bx tk (fun its=>K (it::its)) (fun its=>KL (it::its)))) (match r with
   |[]=>KL [] o tm bx tk
   |_::_=>Z9 C T o tm bx tk (fun it=>Z8 it tm bx tk (fun tm bx tk=>kJ P C T ops.toList r tm bx tk (fun its=>K (it::its)) (fun its=>KL (it::its)))) (NLa P C o tm bx tk (fun it=>Z8 it tm bx tk (fun tm bx tk=>kJ P C T ops.toList r tm bx tk (fun its=>K (it::its)) (fun its=>KL (it::its)))))):=⟨_,rfl⟩
  obtain⟨skip,hskip⟩:∃p,p=(match o.dst with
   |some s=>bif Nat.blt s C.N then kJ P C T ops.toList r ((s,.d (.v undef))::tm) bx tk (fun its=>K (⟨[],some (s,.d (.v undef)),none,none,[],[],[],[]⟩::its)) (fun its=>KL (⟨[],some (s,.d (.v undef)),none,none,[],[],[],[]⟩::its)) else False
   |none=>kJ P C T ops.toList r tm bx tk (fun its=>K (⟨[],none,none,none,[],[],[],[]⟩::its)) (fun its=>KL (⟨[],none,none,none,[],[],[],[]⟩::its))):=⟨_,rfl⟩
  have h':(match o.guard with
   |none=>run
   |some (j,b)=>(match ops.toList[j]? with
    |some oj=>(match oj.dst with
     |some s=>(match lk s tm with
      |some (.d (.v (.bool c)))=>bif Nat.blt s 1000000 then NBr c (bif b then run else skip) (bif b then skip else run) else False
      |some (.d (.v (.tuple _)))=>bif Nat.blt s 1000000 then skip else False
      |_=>False)
     |none=>False)
    |none=>False)):=by rw[hrun,hskip];exact h
  clear h
  have hr:run→(∃it,LA P C o it ⟨tm,bx,tk⟩∧DrR P C ops r (AS.add ⟨tm,bx,tk⟩ it) (fun its=>K (it::its)) (fun its=>KL (it::its)))∨(r=[]∧KL [] o tm bx tk):=fun h=>by
   rw[hrun] at h
   rcases nV (tk:=tk) hT h with⟨it,h1,h⟩|h
   ·exact .inl ⟨it,h1,Ss hT (Ti h)⟩
   ·split at h
    ·exact .inr ⟨rfl,h⟩
    ·rcases FK hT h with⟨it,h1,h⟩|h
     ·exact .inl ⟨it,h1,Ss hT (Ti h)⟩
     ·obtain⟨it,h1,h⟩:=h.h
      exact .inl ⟨it,h1,Ss hT (Ti h)⟩
  have fin:r=[]∧KL [] o tm bx tk→DrR P C ops (o::r) ⟨tm,bx,tk⟩ K KL:=fun⟨e,h⟩=>by
   subst e
   exact .inr ⟨[],o,[],rfl,.nil,h⟩
  split at h'
  ·rename_i hg
   rcases hr h' with⟨it,h1,h2⟩|h2
   ·exact .cons (sE hg h1) h2
   ·exact fin h2
  ·rename_i j b hg
   split at h'
   ·rename_i oj hj
    split at h'
    ·rename_i s hs
     split at h'
     ·rename_i c hc
      have hj':ops[j]?=some oj:=by rw[←Array.getElem?_toList];exact hj
      cases hsN:Nat.blt s 1000000 with
      |false=>rw[hsN] at h';exact h'.elim
      |true=>
      rw[hsN] at h'
      simp only[cond_true] at h'
      have hs6:=Xk hsN
      have hrn:c=b→run→DrR P C ops (o::r) ⟨tm,bx,tk⟩ K KL:=fun e h=>by
       rcases hr h with⟨it,h1,h2⟩|h2
       ·exact .cons (jU hg hj' hs hc hs6 e h1) h2
       ·exact fin h2
      have hsk:c= !b→skip→DrR P C ops (o::r) ⟨tm,bx,tk⟩ K KL:=fun e h=>by
       rw[hskip] at h
       split at h
       ·rename_i q hq
        cases hbl:Nat.blt q C.N with
        |true=>
         rw[hbl] at h
         exact .cons (wN hg hj' hs hc hs6 e hq (ltN hbl)) (Ss hT h)
        |false=>rw[hbl] at h;exact h.elim
       ·rename_i hq
        exact .cons (sG hg hj' hs hc hs6 e hq) (Ss hT h)
      cases hcc:c with
      |true=>
       have h:=h'.t hcc
       cases b with
       |true=>exact hrn hcc h
       |false=>exact hsk hcc h
      |false=>
       have h:=h'.f hcc
       cases b with
       |true=>exact hsk hcc h
       |false=>exact hrn hcc h
     ·rename_i x hx
      have hj':ops[j]?=some oj:=by rw[←Array.getElem?_toList];exact hj
      cases hsN:Nat.blt s 1000000 with
      |false=>rw[hsN] at h';exact h'.elim
      |true=>
       rw[hsN] at h'
       simp only[cond_true] at h'
       rw[hskip] at h'
       split at h'
       ·rename_i q hq
        cases hbl:Nat.blt q C.N with
        |true=>
         rw[hbl] at h'
         exact .cons (sH hg hj' hs hx (Xk hsN) hq (ltN hbl)) (Ss hT h')
        |false=>rw[hbl] at h';exact h'.elim
       ·rename_i hq
        exact .cons (jS hg hj' hs hx (Xk hsN) hq) (Ss hT h')
     ·exact h'.elim
    ·exact h'.elim
   ·exact h'.elim
theorem aE {t:Nat} {u:AV} (h:evT tm (.tmp t)=some u):Nat.blt t 1000000=true∧lk t tm=some u:=by
 have h':(bif Nat.blt t 1000000 then lk t tm else none)=some u:=h
 cases hb:Nat.blt t 1000000 with
 |true=>rw[hb] at h';exact⟨rfl,h'⟩
 |false=>rw[hb] at h';cases h'
theorem FN {c:Operand} {x y:Code} {Φ:Exit→AS→Prop} {a b:TM→Prop} (ha:∀tm,a tm→C8 P C x Φ ⟨tm,bx,tk⟩) (hb:∀tm,b tm→C8 P C y Φ ⟨tm,bx,tk⟩) (h:kK tm c a b):C8 P C (.cond c x y) Φ ⟨tm,bx,tk⟩:=by
 unfold kK at h
 split at h
 ·rename_i t
  split at h
  ·rename_i v hv
   have hl:=(aE hv).2
   refine Uq (c:= .tmp t) (Bo hv) (fun e=> ?_) (fun e=> ?_)
   ·exact Sp (t:=t) (d:=true) hl e (ha _ (h.t e))
   ·exact Sp (t:=t) (d:=false) hl e (hb _ (h.f e))
  ·exact h.elim
 ·exact Uq (c:= .const (.bool _)) rfl (fun e=>ha _ (h.t e)) (fun e=>hb _ (h.f e))
 ·exact h.elim
theorem Ent.refl (σ:AS):Ent σ σ:=fun _ _ _ h=>h
theorem dS {Φ:Exit→AS→Prop} {σ:AS} {c:Code} (I:Nat→AS→Prop) (n:Nat) (h0:∃σ',Ent σ σ'∧I n σ') (round:∀n σ,I n σ→C8 P C c (nx (fun σ'=>∃m,m<n∧∃σ'',Ent σ' σ''∧I m σ'') Φ) σ):C8 P C (.loop c) Φ σ:=by
 obtain⟨σ',hw,hI⟩:=h0
 have h:=jO (fun m σ=>∃σ'',Ent σ σ''∧I m σ'') n ⟨σ',Ent.refl _,hI⟩ fun n σ hI=>by
  obtain⟨σ2,hw2,hI2⟩:=hI
  exact fun a w hG=>round n σ2 hI2 a w (hw2 C a w hG)
 exact fun a w hG=>h a w (hw C a w hG)
theorem Tk (hT:TabOk P T) (hm:P.follows .mixedOrders=true) (c:Code):∀(kn:KS) (ke:Nat→KS) (kr:KS) (tm:TM) (bx:BX) (tk:TK),I7 P C T c kn ke kr tm bx tk→C8 P C c (xD kn ke kr) ⟨tm,bx,tk⟩:=by
 induction c with
 |skip=>intro kn ke kr tm bx tk h;exact jM h
 |region id ops draw=>
  intro kn ke kr tm bx tk h
  cases draw with
  |true=>
   rcases Ss (ops:=ops) (K:=fun its tm' bx' tk'=>NFact (I0 ops=true∧Z2 ops.toList its ⟨tm,bx,tk⟩=true) (kn tm' bx' tk')) (KL:=fun its o tm' bx' tk'=>NFact (I0 ops=true∧Th ops.toList.dropLast o its ⟨tm,bx,tk⟩=true) (Ig P C T ops.toList [o] tm' bx' tk' kn)) hT h with⟨its,h1,h2⟩|⟨l',o1,its,hl,h1,h2⟩
   ·exact jT (l:=ops.toList) hm h2.h.1 h1 h2.h.2 h2.k
   ·have hd:ops.toList.dropLast=l':=by rw[hl];simp
    obtain⟨⟨k1,k2⟩,k3⟩:=h2
    rw[hd] at k2
    have he:ops=(l'++[o1]).toArray:=by rw[←hl]
    subst he
    exact dM hm k1 h1 k2 (O5 (Φ:=xD kn ke kr) (K:=kn) hT (fun _ _ _ h=>h) k3)
  |false=>exact Zz (l:=ops.toList) (O5 (ops:=ops) (Φ:=xD kn ke kr) (K:=kn) hT (fun _ _ _ h=>h) h)
 |seq x y ihx ihy=>
  intro kn ke kr tm bx tk h
  refine rZ (Fs (ihx _ _ _ _ _ _ h) fun e σ he=> ?_)
  cases e with
  |normal=>exact ihy _ _ _ _ _ _ he
  |exit id=>exact he
  |ret=>exact he
  |goto l=>exact he.elim
  |panic c=>exact he.elim
  |_=>first|exact he.elim|exact he
 |cond c x y ihx ihy=>
  intro kn ke kr tm bx tk h
  exact FN (fun tm h=>ihx _ _ _ _ _ _ h) (fun tm h=>ihy _ _ _ _ _ _ h) h
 |block id c ih=>
  intro kn ke kr tm bx tk h
  refine dF (Fs (ih _ _ _ _ _ _ h) fun e σ he=> ?_)
  cases e with
  |normal=>exact he
  |exit id'=>
   simp only[inB]
   have he':(bif Nat.beq id' id then kn else ke id') σ.tm σ.bx σ.tk:=he
   cases hb:Nat.beq id' id with
   |true=>rw[hb] at he';exact he'
   |false=>rw[hb] at he';exact he'
  |ret=>exact he
  |goto l=>exact he.elim
  |panic c=>exact he.elim
  |_=>first|exact he.elim|exact he
 |loop c ih=>
  intro kn ke kr tm bx tk h
  obtain⟨α,inv,ms,st,W,a0,hW,h0,w0,hr⟩:=NLoop.h h
  refine dS (fun m σ=>∃a,inv a∧m=ms a∧σ=st a) (ms a0) ⟨_,w0,a0,h0,rfl,rfl⟩ ?_
  rintro m _ ⟨a,ha,rfl,rfl⟩
  refine Fs (ih _ _ _ _ _ _ (hr a ha)) fun e σ he=> ?_
  cases e with
  |normal=>obtain⟨a',h1,h2,h3⟩:=he;exact⟨_,h2,_,hW _ _ h3,a',h1,rfl,rfl⟩
  |exit id=>exact he
  |ret=>exact he
  |goto l=>exact he.elim
  |panic c=>exact he.elim
  |_=>first|exact he.elim|exact he
 |rangeFunc f ps a b _ _=>intro kn ke kr tm bx tk h;exact NCode.h h
 |exit id=>intro kn ke kr tm bx tk h;exact jN h
 |scope c ih=>
  intro kn ke kr tm bx tk h
  refine dG (Fs (ih _ _ _ _ _ _ h) fun e σ he=> ?_)
  cases e with
  |normal=>exact he
  |exit id=>exact he
  |ret=>exact he
  |goto l=>exact he.elim
  |panic c=>exact he.elim
  |_=>first|exact he.elim|exact he
 |label l=>intro kn ke kr tm bx tk h;exact dE h
 |goto l=>intro kn ke kr tm bx tk h;exact False.elim h
 |ret=>intro kn ke kr tm bx tk h;exact sA h
 |refuse w=>intro kn ke kr tm bx tk h;exact False.elim h
theorem Ux (hT:TabOk P T):∀{rs:List ResultVar} {K:List AV→Prop},sR T tm bx rs K→∃us,Lm P ⟨tm,bx,tk⟩ rs us∧K us
 |[],K,h=>⟨[],trivial,h⟩
 | .tmp t::r,K,h=>by
   have h':(match evT tm (.tmp t) with
    |some u=>sR T tm bx r (fun us=>K (u::us))
    |none=>False):=h
   split at h'
   ·rename_i u hu
    obtain⟨us,h1,h2⟩:=Ux hT h'
    exact⟨u::us,⟨aE hu,h1⟩,h2⟩
   ·exact h'.elim
 | .cell p ty::r,K,h=>by
   have h':(match evT tm (.tmp p),lk ty T.ty with
    |some (.ptr b off),some (d,_,sz,_)=>(match lk b bx with
     |some cs=>bif Jm d then Dm ((cs.drop off).take sz) (fun us'=>bif Nat.beq us'.length sz then sR T tm bx r (fun us=>K (.agg us'::us)) else False) else(match cs[off]? with
      |some u=>sR T tm bx r (fun us=>K (u::us))
      |none=>False)
     |none=>False)
    |_,_=>False):=h
   clear h
   split at h'
   ·rename_i b off d z sz by' hp0 hty
    obtain⟨hbt,hp⟩:=aE hp0
    split at h'
    ·rename_i cs hcs
     cases hD:Jm d with
     |true=>
      rw[hD] at h'
      have h':=Cc h'
      cases hl:Nat.beq ((cs.drop off).take sz).length sz with
      |true=>
       rw[hl] at h'
       obtain⟨us,h1,h2⟩:=Ux hT h'
       exact⟨.agg ((cs.drop off).take sz)::us,⟨sC (σ:=⟨tm,bx,tk⟩) hbt hp hcs (hT.ty hty) hD rfl (Nat.eq_of_beq_eq_true hl),h1⟩,h2⟩
      |false=>rw[hl] at h';exact h'.elim
     |false=>
      rw[hD] at h'
      simp only[cond_false] at h'
      split at h'
      ·rename_i u hu
       obtain⟨us,h1,h2⟩:=Ux hT h'
       exact⟨u::us,⟨wL (σ:=⟨tm,bx,tk⟩) hbt hp hcs (hT.ty hty) hD hu,h1⟩,h2⟩
      ·exact h'.elim
    ·exact h'.elim
   ·exact h'.elim
theorem xX (hT:TabOk P T) {fn:Func} {Φ:AV→Prop} (h:kL T fn.results Φ tm bx tk):EL P fn Φ ⟨tm,bx,tk⟩:=by
 obtain⟨us,h1,h2⟩:=Ux (tk:=tk) hT h
 refine⟨us,h1,?_⟩
 unfold OR at h2
 unfold single
 split at h2
 ·exact h2.h
 ·rename_i hne
  split
  ·exact absurd rfl (hne _)
  ·exact h2.h
theorem Ns {f:FuncId} {fn:Func} {c:Code} {args:List AV} {Φ:AV→Prop} (N:Nat) (rs:Array ResultVar) (hT:TabOk P T) (hm:P.follows .mixedOrders=true) (hf:P.funcs[f]?=some fn) (hN:fn.ntmps=N) (hn0:(fn.name== "runtime.NumGoroutine")=false) (hb:fn.body=some c) (hr:fn.results=rs) (hn:Nat.ble rs.size 4=true) (hA:(Nat.ble args.length N&&Nat.ble N 1000000)=true)
 (h:∀W fp0 z0,I7 P ⟨W,fp0,N,fun _=>none,z0⟩ T c (kL T rs Φ) (fun _ _ _ _=>False) (kL T rs Φ) (G3 0 args) [] []):Ab P f args Φ:=by
 subst hN hr
 simp only[At] at hA
 refine sB hf (Mk hf hn0 hb) hb (leN hn) (leN hA.1) (leN hA.2) fun W fp0 z0=>Fs (Tk hT hm c _ _ _ _ _ _ (h W fp0 z0)) fun e σ he=> ?_
 cases e with
 |normal=>exact xX hT he
 |exit id=>exact False.elim he
 |ret=>exact xX hT he
 |goto l=>exact he.elim
 |panic c=>exact he.elim
 |_=>first|exact he.elim|exact he
noncomputable def dT (tm:TM) (K:TM→Prop):Prop:=
 @List.rec (Nat×AV) (fun _=>(TM→Prop)→Prop) (fun K=>K []) (fun p _ ih K=>match p with
  |(t,u)=>bif Nat.ble 1000000 t then ih (fun r=>K ((t-1000000,u)::r)) else ih K) tm K
theorem P9:∀{tm:TM} {K:TM→Prop},dT tm K→K (nU tm)
 |[],_,h=>h
 |(t,u)::r,K,h=>by
  have h':(bif Nat.ble 1000000 t then dT r (fun r=>K ((t-1000000,u)::r)) else dT r K):=h
  unfold nU Uu
  cases hb:Nat.ble 1000000 t with
  |true=>rw[hb] at h';exact P9 h'
  |false=>rw[hb] at h';exact P9 h'
noncomputable def OT (d:Option Nat) (u:AV) (tm:TM) (K:TM→Prop):Prop:=
 match d with
 |some t=>dT tm (fun r=>K ((t,u)::r))
 |none=>dT tm K
noncomputable def Kx (T:Tab) (rs:Array ResultVar) (d:Option Nat) (K:KS):KS:=fun tm bx tk=>sR T tm bx rs.toList (fun us=>OT d (single us) tm (fun tm=>K tm bx tk))
def Yf (d:Option Nat) (N:Nat):Bool:=match d with
 |some t=>Nat.blt t N
 |none=>true
theorem Qa (hT:TabOk P T) {rs:Array ResultVar} {d:Option Nat} {K:KS} (h:Kx T rs d K tm bx tk):∃us,Lm P ⟨tm,bx,tk⟩ rs.toList us∧K ((AS.mk tm bx tk).ret d (single us)).tm ((AS.mk tm bx tk).ret d (single us)).bx ((AS.mk tm bx tk).ret d (single us)).tk:=by
 obtain⟨us,h1,h2⟩:=Ux (tk:=tk) hT h
 refine⟨us,h1,?_⟩
 unfold OT at h2
 unfold AS.ret
 cases d with
 |none=>exact P9 h2
 |some t=>exact P9 h2
theorem dU (hT:TabOk P T) (hm:P.follows .mixedOrders=true) {fn:Func} {c:Code} {us:List AV} {d:Option Nat} {K:KS} (off:Nat) {W:World} {fp0 z0:Nat→Nat→Prop} {N:Nat} {rs:Array ResultVar} (hr:fn.results=rs) (hN:fn.ntmps=N)
 (h:∀gh,Dm (inT us tm) (fun tm=>I7 P ⟨W,fp0,N,gh,z0⟩ ⟨T.ty,T.fd,T.st,T.mu,off⟩ c (Kx T rs d K) (fun _ _ _ _=>False) (Kx T rs d K) tm bx tk)):
 ∀gh,C8 P ⟨W,fp0,fn.ntmps,gh,z0⟩ c (xB P fn.results.toList d (fun σ'=>K σ'.tm σ'.bx σ'.tk)) ⟨inT us tm,bx,tk⟩:=by
 subst hr hN
 intro gh
 have hg:=Cc (K:=fun tm=>I7 P ⟨W,fp0,fn.ntmps,gh,z0⟩ ⟨T.ty,T.fd,T.st,T.mu,off⟩ c (Kx T fn.results d K) (fun _ _ _ _=>False) (Kx T fn.results d K) tm bx tk) (h gh)
 refine Fs (Tk (T:=⟨T.ty,T.fd,T.st,T.mu,off⟩) ⟨hT.ty,hT.fd,hT.st⟩ hm c _ _ _ _ _ _ hg) fun e σ he=> ?_
 cases e with
 |normal=>exact Qa hT he
 |exit id=>exact False.elim he
 |ret=>exact Qa hT he
 |goto l=>exact he.elim
 |panic c=>exact he.elim
 |_=>first|exact he.elim|exact he
theorem NStep.inl {f:FuncId} {fn:Func} {c:Code} {args:Array Operand} {ats:Array TypeId} {us:List AV} {K:KS} (off N:Nat) (rs:Array ResultVar) (hT:TabOk P T) (hm:P.follows .mixedOrders=true) (ho:o.op= .call {callee:= .value (.func f),args:=args,argTypes:=ats}) (hd:Yf o.dst C.N=true)
 (hu:evL ⟨tm,bx,tk⟩ args.toList=some us) (hf:P.funcs[f]?=some fn) (hN:fn.ntmps=N) (hn0:(fn.name== "runtime.NumGoroutine")=false) (hb:fn.body=some c) (hr:fn.results=rs) (hn:Nat.ble rs.size 4=true) (hA:(Nat.ble us.length N&&Nat.ble N 1000000)=true)
 (h:∀gh,Dm (inT us tm) (fun tm=>I7 P ⟨C.W,C.fp0,N,gh,C.z0⟩ ⟨T.ty,T.fd,T.st,T.mu,off⟩ c (Kx T rs o.dst K) (fun _ _ _ _=>False) (Kx T rs o.dst K) tm bx tk)):NStep P C o tm bx tk K:=by
 simp only[At] at hA
 refine⟨_,xC ho (fun t ht=>by unfold Yf at hd;rw[ht] at hd;exact ltN hd) hu (Mk hf hn0 hb) hf hb (by rw[hr];exact leN hn) (by rw[hN];exact leN hA.1) (by rw[hN];exact leN hA.2) (dU hT hm off hr hN h),fun σ' h=>h⟩
theorem O6 {f:FuncId} {s:Nat} {fs cs:List AV} {fn:Func} {c:Code} {args:Array Operand} {ats:Array TypeId} {us:List AV} {K:KS} (off N:Nat) (rs:Array ResultVar) (hT:TabOk P T) (hm:P.follows .mixedOrders=true) (ho:o.op= .call {callee:= .value (.tmp s),args:=args,argTypes:=ats}) (hd:Yf o.dst C.N=true)
 (hv:evT tm (.tmp s)=some (.cl f fs cs)) (hu:evL ⟨tm,bx,tk⟩ args.toList=some us) (hf:P.funcs[f]?=some fn) (hN:fn.ntmps=N) (hn0:(fn.name== "runtime.NumGoroutine")=false) (hb:fn.body=some c) (hr:fn.results=rs) (hn:Nat.ble rs.size 4=true) (hA:(Nat.ble (fs++us++cs).length N&&Nat.ble N 1000000)=true)
 (h:∀gh,Dm (inT (fs++us++cs) tm) (fun tm=>I7 P ⟨C.W,C.fp0,N,gh,C.z0⟩ ⟨T.ty,T.fd,T.st,T.mu,off⟩ c (Kx T rs o.dst K) (fun _ _ _ _=>False) (Kx T rs o.dst K) tm bx tk)):NStep P C o tm bx tk K:=by
 simp only[At] at hA
 refine⟨_,sO ho (fun t ht=>by unfold Yf at hd;rw[ht] at hd;exact ltN hd) (Bo hv) hu (Mk hf hn0 hb) hf hb (by rw[hr];exact leN hn) (by rw[hN];exact leN hA.1) (by rw[hN];exact leN hA.2) (dU hT hm off hr hN h),fun σ' h=>h⟩
end
abbrev iv (n:Int):AV:= .d (.v (.int .i64 n))
abbrev bv (b:Bool):AV:= .d (.v (.bool b))
abbrev cv (b:Nat):AV:= .d (.v (.int .u8 b))
theorem Ac {A B:Prop} (h:A):NBr true A B:=⟨fun _=>h,fun e=>(by cases e)⟩
theorem Ae {A B:Prop} (h:B):NBr false A B:=⟨fun e=>(by cases e),fun _=>h⟩
theorem Ai {p:Prop} {i:Decidable p} {A B:Prop} (a:@decide p i=true→p→A) (b:@decide p i=false→¬p→B):NBr (@decide p i) A B:=⟨fun h=>a h (of_decide_eq_true h),fun h=>b h (of_decide_eq_false h)⟩
theorem QB {x y:Int} {A B:Prop} (a:(x==y)=true→x=y→A) (b:(x==y)=false→¬x=y→B):NBr (x==y) A B:=⟨fun h=>a h (eq_of_beq h),fun h=>b h (by rw[beq_eq_false_iff_ne] at h;exact h)⟩
theorem Cy {x y:Int} {A B:Prop} (a:(x !=y)=true→¬x=y→A) (b:(x !=y)=false→x=y→B):NBr (x !=y) A B:=⟨fun h=>a h (by rw[bne_iff_ne] at h;exact h),fun h=>b h (by rw[bne_eq_false_iff_eq] at h;exact h)⟩
theorem Ay {b:Bool} {A B:Prop} (e:b=true) (h:A):NBr b A B:=⟨fun _=>h,fun e'=>(by rw[e] at e';cases e')⟩
theorem A0 {b:Bool} {A B:Prop} (e:b=false) (h:B):NBr b A B:=⟨fun e'=>(by rw[e] at e';cases e'),fun _=>h⟩
theorem NInt.as {e:Int} {A:Int→Prop} (e':Int) (h:e=e') (k:A e'):NInt e A:=⟨fun z hz=>(by subst hz;subst h;exact k)⟩
theorem NInt.i64 {m:Int} {A:Int→Prop} (k:A m) (h: -9223372036854775808≤m∧m≤9223372036854775807:=by(repeat' apply And.intro)<;>first|omega|rfl|(simp only[Ag,List.length_nil,Ap,Al,Az] at*;omega)):NInt (IntKind.i64.wrap m) A:= .as m (IntWalk.i64_in m h) k
theorem NInt.i32 {m:Int} {A:Int→Prop} (k:A m) (h: -2147483648≤m∧m≤2147483647:=by(repeat' apply And.intro)<;>first|omega|rfl|(simp only[Ag,List.length_nil,Ap,Al,Az] at*;omega)):NInt (IntKind.i32.wrap m) A:= .as m (IntWalk.i32_in m h) k
theorem NInt.u8 {m:Int} {A:Int→Prop} (k:A m) (h:0≤m∧m≤255:=by(repeat' apply And.intro)<;>first|omega|rfl|(simp only[Ag,List.length_nil,Ap,Al,Az] at*;omega)):NInt (IntKind.u8.wrap m) A:= .as m (IntWalk.u8_in m h) k
theorem OU {m:Int} {A:Int→Prop} (k:A m) (h:0≤m∧m≤65535:=by(repeat' apply And.intro)<;>first|omega|rfl|(simp only[Ag,List.length_nil,Ap,Al,Az] at*;omega)):NInt (IntKind.u16.wrap m) A:= .as m (IntWalk.u16_in m h) k
theorem NInt.u32 {m:Int} {A:Int→Prop} (k:A m) (h:0≤m∧m≤4294967295:=by(repeat' apply And.intro)<;>first|omega|rfl|(simp only[Ag,List.length_nil,Ap,Al,Az] at*;omega)):NInt (IntKind.u32.wrap m) A:= .as m (IntWalk.u32_in m h) k
theorem NInt.u64 {m:Int} {A:Int→Prop} (k:A m) (h:0≤m∧m≤18446744073709551615:=by(repeat' apply And.intro)<;>first|omega|rfl|(simp only[Ag,List.length_nil,Ap,Al,Az] at*;omega)):NInt (IntKind.u64.wrap m) A:= .as m (IntWalk.u64_in m h) k
theorem NInt.quo {k:IntKind} {m d:Nat} {A:Int→Prop} (kk:A ((m/d:Nat):Int)) (h:k.wrap ((m/d:Nat):Int)=((m/d:Nat):Int):=by first|exact IntWalk.u64_in _ (by omega)|exact IntWalk.i64_in _ (by omega)|exact IntWalk.u32_in _ (by omega)|exact IntWalk.u8_in _ (by omega)):NInt (k.wrap ((m:Int).tdiv (d:Int))) A:=
 .as _ (by rw[Int.tdiv_eq_ediv_of_nonneg (by omega),←Int.natCast_ediv];exact h) kk
theorem NInt.rem {m d:Nat} {A:Int→Prop} (kk:A ((m%d:Nat):Int)):NInt ((m:Int).tmod (d:Int)) A:= .as _ (by rw[Int.tmod_eq_emod_of_nonneg (by omega)];rfl) kk
theorem Bz {k:IntKind} {m d:Nat} {A:Int→Prop} (kk:A ((m/(@OfNat.ofNat Nat d (instOfNatNat d)):Nat):Int)) (h:k.wrap ((m/(@OfNat.ofNat Nat d (instOfNatNat d)):Nat):Int)=((m/(@OfNat.ofNat Nat d (instOfNatNat d)):Nat):Int):=by first|exact IntWalk.u64_in _ (by omega)|exact IntWalk.i64_in _ (by omega)|exact IntWalk.u32_in _ (by omega)|exact IntWalk.u8_in _ (by omega)):NInt (k.wrap ((m:Int).tdiv (@OfNat.ofNat Int d _))) A:= .quo (d:=d) kk h
theorem Bh {m d:Nat} {A:Int→Prop} (kk:A ((m%(@OfNat.ofNat Nat d (instOfNatNat d)):Nat):Int)):NInt ((m:Int).tmod (@OfNat.ofNat Int d _)) A:= .rem (d:=d) kk
theorem NInt.shr {m e:Nat} {A:Int→Prop} (kk:A ((m/2^e:Nat):Int)):NInt ((m:Int).fdiv (2^e)) A:= .as _ (by
 rw[Int.fdiv_eq_ediv_of_nonneg _ (by exact_mod_cast Nat.zero_le (2^e))]
 rw[Int.natCast_ediv,Int.natCast_pow];rfl) kk
theorem Bi {z:Int} {A:Int→Prop} (m:Nat) (k:A ((UInt8.ofNat m).toNat:Int)) (hz:z=(m:Int):=by omega):NInt (IntKind.u8.wrap z) A:= .as _ (by rw[hz,Z6 m]) k
theorem Ky {m:Nat} {A:Int→Prop} (k:A ((UInt8.ofNat m).toNat:Int)):NInt (IntKind.u8.wrap (m:Int)) A:= .as _ (Z6 m) k
theorem Au {F A:Prop} (h:F) (k:A):NFact F A:=⟨h,k⟩
theorem xY {α:Type} {l:List α} {i:Nat} {b:α} (h:l[i]?=some b):(l.drop i).take 1=[b]:=by
 obtain⟨h1,h2⟩:=Aw.1 h
 rw[List.drop_eq_getElem_cons h1,h2];rfl
theorem NIdx.bytes {l:List UInt8} {j:Int} {A:List D→Prop} {i:Nat} {b:UInt8} (hb:l[i]?=some b) (k:A [.v (.int .u8 b.toNat)]) (hj:j=(i:Int):=by first|rfl|omega|(simp only[Ag,Ap] at*;omega)):NIdx (Ak l) l.length 1 j A:=by
 refine⟨i,_,hj,(Aw.1 hb).1,?_,k⟩
 rw[Nat.mul_one]
 exact xY (by rw[Gi,hb];rfl)
theorem NIdx.any {l:List UInt8} {j:Int} {A:List D→Prop} (k:∀b:UInt8,l[j.toNat]?=some b→A [.v (.int .u8 b.toNat)]) (h:0≤j∧j<l.length:=by first|omega|(simp only[Ag] at*;omega)):NIdx (Ak l) l.length 1 j A:=by
 have hlt:j.toNat<l.length:=by omega
 exact NIdx.bytes (Am hlt) (k _ (Am hlt)) (by omega)
theorem NIdx.tab {α:Type} {f:α→List D} {l:List α} {sz:Nat} {j:Int} {A:List D→Prop} {i:Nat} {b:α} (hf:∀x,(f x).length=sz) (hb:l[i]?=some b) (k:A (f b)) (hj:j=(i:Int):=by first|rfl|omega|(simp only[Ag,Ap] at*;omega)):NIdx (l.flatMap f) l.length sz j A:=
 ⟨i,_,hj,(Aw.1 hb).1,nT hf hb,k⟩
theorem Qb {cs:List D} {n sz:Nat} {j:Int} {A:List D→Prop} (i:Nat) (k:A ((cs.drop (i*sz)).take sz)) (hj:j=(i:Int):=by first|rfl|omega|(simp only[Ag,Ap] at*;omega)) (hi:i<n:=by first|decide|omega):NIdx cs n sz j A:=⟨i,_,hj,hi,rfl,k⟩
theorem Bc {l:List UInt8} {j:Int} {A:UInt8→Prop} {i:Nat} {b:UInt8} (hb:l[i]?=some b) (k:A b) (hj:j=(i:Int):=by first|rfl|omega|(simp only[Ag,Ap] at*;omega)):NIdxS l j A:=⟨i,b,hj,hb,k⟩
theorem NIdxS.any {l:List UInt8} {j:Int} {A:UInt8→Prop} (k:∀b:UInt8,l[j.toNat]?=some b→A b) (h:0≤j∧j<l.length:=by(repeat' apply And.intro)<;>first|omega|rfl|(simp only[Ag,List.length_nil,Ap,Al,Az] at*;omega)):NIdxS l j A:=by
 have hlt:j.toNat<l.length:=by omega
 exact Bc (Am hlt) (k _ (Am hlt)) (by omega)
theorem NSl.bytes {l:List UInt8} {lo hi mx:Int} {A:Nat→List D→Prop} (a b:Nat) (r:List UInt8) (e:(l.drop a).take (b-a)=r) (k:A r.length (Ak r)) (h:lo=a∧hi=b∧a≤b∧(b:Int)≤mx∧mx≤l.length:=by(repeat' apply And.intro)<;>first|omega|rfl|(simp only[Ag,List.length_nil,Ap,Al,Az] at*;omega)):NSl (Ak l) l.length 1 lo hi mx A:=by
 subst e
 refine⟨a,b,mx.toNat,_,_,by omega,by omega,by omega,by omega,by omega,by omega,?_,?_,k⟩
 ·rw[Al,Az];omega
 ·rw[Nat.mul_one,Nat.mul_one,Al,Az,Nat.min_eq_left (by omega),dA,dB]
theorem NSl.slice {l:List UInt8} {lo hi mx:Int} {A:Nat→List D→Prop} (a b:Nat) (k:A ((l.drop a).take (b-a)).length (Ak ((l.drop a).take (b-a)))) (h:lo=a∧hi=b∧a≤b∧(b:Int)≤mx∧mx≤l.length:=by(repeat' apply And.intro)<;>first|omega|rfl|(simp only[Ag,List.length_nil,Ap,Al,Az] at*;omega)):NSl (Ak l) l.length 1 lo hi mx A:= .bytes a b _ rfl k h
theorem dV {l:List UInt8} {lo hi mx:Int} {A:Nat→List D→Prop} (b:Nat) (k:A (l.take b).length (Ak (l.take b))) (h:lo=0∧hi=b∧(b:Int)≤mx∧mx≤l.length:=by(repeat' apply And.intro)<;>first|omega|rfl|(simp only[Ag,List.length_nil,Ap,Al,Az] at*;omega)):NSl (Ak l) l.length 1 lo hi mx A:= .bytes 0 b _ rfl (by simpa using k) (by omega)
theorem F9 {l:List UInt8} {lo hi mx:Int} {A:Nat→List D→Prop} (a:Nat) (k:A (l.drop a).length (Ak (l.drop a))) (h:lo=a∧hi=l.length∧a≤l.length∧mx=l.length:=by(repeat' apply And.intro)<;>first|omega|rfl|(simp only[Ag,List.length_nil,Ap,Al,Az] at*;omega)):NSl (Ak l) l.length 1 lo hi mx A:= .bytes a l.length (l.drop a) (by rw[List.take_of_length_le (by rw[Az];omega)]) k (by omega)
theorem NSl.tab {α:Type} {f:α→List D} {sz:Nat} {l:List α} {lo hi mx:Int} {A:Nat→List D→Prop} (hf:∀x,(f x).length=sz) (a b:Nat) (r:List α) (e:(l.drop a).take (b-a)=r) (k:A r.length (r.flatMap f)) (h:lo=a∧hi=b∧a≤b∧(b:Int)≤mx∧mx≤l.length:=by(repeat' apply And.intro)<;>first|omega|rfl|(simp only[Ag,List.length_nil,Ap,Al,Az] at*;omega)):NSl (l.flatMap f) l.length sz lo hi mx A:=by
 subst e
 refine⟨a,b,mx.toNat,_,_,by omega,by omega,by omega,by omega,by omega,by omega,?_,?_,k⟩
 ·rw[Al,Az];omega
 ·rw[Al,Az,Nat.min_eq_left (by omega),Ye hf,Yd hf]
theorem NSlS.bytes {l:List UInt8} {lo hi:Int} {A:List UInt8→Prop} (a b:Nat) (k:A ((l.drop a).take (b-a))) (h:lo=a∧hi=b∧a≤b∧b≤l.length:=by(repeat' apply And.intro)<;>first|omega|rfl|(simp only[Ag,List.length_nil,Ap,Al,Az] at*;omega)):NSlS l lo hi A:=⟨a,b,_,h.1,h.2.1,h.2.2.1,h.2.2.2,rfl,k⟩
theorem E4 {l:List UInt8} {A:List UInt8→Prop} (k:A l):NStr (Ak l) A:=⟨l,rfl,k⟩
theorem OV {cs:List D} (l:List UInt8) {A:List UInt8→Prop} (k:A l) (h:cs=Ak l:=by rfl):NStr cs A:=⟨l,h,k⟩
theorem NApp.bytes {l m:List UInt8} {A:Nat→List D→Prop} (k:A (l++m).length (Ak (l++m))) (h:l.length+m.length≤1000000000:=by(repeat' apply And.intro)<;>first|omega|rfl|(simp only[Ag,List.length_nil,Ap,Al,Az] at*;omega)):NApp l.length l.length m.length (Ak l) (Ak m) A:=⟨rfl,h,_,_,by rw[Ap],by rw[H2],k⟩
theorem Mo {m:List UInt8} {A:Nat→List D→Prop} (k:A m.length (Ak m)) (h:m.length≤1000000000:=by(repeat' apply And.intro)<;>first|omega|rfl|(simp only[Ag,List.length_nil,Ap,Al,Az] at*;omega)):NApp 0 0 m.length [] (Ak m) A:=⟨rfl,by omega,_,_,Nat.zero_add _,rfl,k⟩
theorem FO {x:Int} {b:UInt8} (h:x=(b.toNat:Int)):[D.v (.int .u8 x)]=Ak [b]:=by subst h;rfl
theorem Is {l:List UInt8} {x:Int} {A:Nat→List D→Prop} (b:UInt8) (k:A (l++[b]).length (Ak (l++[b]))) (hx:x=(b.toNat:Int):=by rfl) (h:l.length+1≤1000000000:=by(repeat' apply And.intro)<;>first|omega|rfl|(simp only[Ag,List.length_nil,Ap,Al,Az] at*;omega)):NApp l.length l.length 1 (Ak l) [.v (.int .u8 x)] A:=⟨rfl,h,_,_,by rw[Ap];rfl,by rw[H2,FO hx],k⟩
theorem Mp (l:List UInt8) {m:List UInt8} {n:Nat} {cs:List D} {A:Nat→List D→Prop} (k:A (l++m).length (Ak (l++m))) (h1:cs=Ak l:=by rfl) (h2:n=l.length:=by rfl) (h:l.length+m.length≤1000000000:=by(repeat' apply And.intro)<;>first|omega|rfl|(simp only[Ag,List.length_nil,Ap,Al,Az] at*;omega)):NApp n n m.length cs (Ak m) A:=by
 subst h1 h2;exact .bytes k h
theorem NApp.tab {α:Type} (f:α→List D) {l m:List α} {n:Nat} {ds:List D} {A:Nat→List D→Prop} (hd:ds=m.flatMap f) (hn:n=m.length) (k:A (l++m).length ((l++m).flatMap f)) (h:l.length+m.length≤1000000000:=by(repeat' apply And.intro)<;>first|omega|rfl|(simp only[Ag,List.length_nil,Ap,Al,Az] at*;omega)):NApp l.length l.length n (l.flatMap f) ds A:=by
 subst hd hn;exact⟨rfl,h,_,_,by rw[Ap],by rw[List.flatMap_append],k⟩
theorem NApp.tab0 {α:Type} (f:α→List D) {m:List α} {n:Nat} {ds:List D} {A:Nat→List D→Prop} (hd:ds=m.flatMap f) (hn:n=m.length) (k:A m.length (m.flatMap f)) (h:m.length≤1000000000:=by(repeat' apply And.intro)<;>first|omega|rfl|(simp only[Ag,List.length_nil,Ap,Al,Az] at*;omega)):NApp 0 0 n [] ds A:=by
 subst hd hn;exact⟨rfl,by omega,_,_,Nat.zero_add _,rfl,k⟩
theorem A2 {α:Type} (f:α→List D) (x:α) {l:List α} {ds:List D} {A:Nat→List D→Prop} (k:A (l++[x]).length ((l++[x]).flatMap f)) (hd:ds=f x:=by rfl) (h:l.length+1≤1000000000:=by(repeat' apply And.intro)<;>first|omega|rfl|(simp only[Ag,List.length_nil,Ap,Al,Az] at*;omega)):NApp l.length l.length 1 (l.flatMap f) ds A:=
 .tab f (m:=[x]) (by subst hd;simp) rfl k h
theorem Yg {α:Type} (f:α→List D) (x:α) {ds:List D} {A:Nat→List D→Prop} (k:A [x].length ([x].flatMap f)) (hd:ds=f x:=by rfl):NApp 0 0 1 [] ds A:=
 .tab0 f (m:=[x]) (by subst hd;simp) rfl k (by simp)
theorem H3 {n' n m:Nat} {cs ds:List D} {A:Nat→List D→Prop} (r:Nat) (es:List D) (k:A r es) (h1:n'=n:=by rfl) (h2:n+m≤1000000000:=by(repeat' apply And.intro)<;>first|omega|rfl|(simp only[Ag,List.length_nil,Ap,Al,Az] at*;omega)) (h3:n+m=r:=by first|rfl|omega|(simp only[Ag,Ap] at*;omega)) (h4:cs++ds=es:=by first|rfl|simp):NApp n' n m cs ds A:=⟨h1,h2,r,es,h3,h4,k⟩
theorem Aj {P:Program} {C:Cx} {o:Oper} {tm:TM} {bx:BX} {tk:TK} {K:KS} {σ':AS} (h:Bp P C o ⟨tm,bx,tk⟩ σ') (k:K σ'.tm σ'.bx σ'.tk):NStep P C o tm bx tk K:=⟨Tj h k⟩
theorem Uy {P:Program} {C:Cx} {o:Oper} {tm:TM} {bx:BX} {tk:TK} {K:KS} {S:AS→Prop} (h:Ic P C o ⟨tm,bx,tk⟩ S) (k:∀σ',S σ'→K σ'.tm σ'.bx σ'.tk):NStep P C o tm bx tk K:=⟨S,h,k⟩
theorem Aa {P:Program} {f:FuncId} {args fs:List AV} {A:AV→Prop} {r:AV} (h:Ab P f fs (fun r'=>r'=r)) (e:args=fs) (k:A r):NCall P f args A:=by subst e;exact⟨r,h,k⟩
theorem OW {P:Program} {C:Cx} {c:Code} {tm:TM} {bx:BX} {tk:TK} {kn:KS} {ke:Nat→KS} {kr:KS} (h:C8 P C c (xD kn ke kr) ⟨tm,bx,tk⟩):NCode P C c tm bx tk kn ke kr:=⟨h⟩
mutual
def leD:D→D→Prop
 | .v a,y=>match y with
   | .v b=>(match a,b with
     | .int k a,.int k' b=>k=k'∧a=b
     | .bool a,.bool b=>a=b
     |a,b=>a=b)
   | .sl _ n _ cs=>a= .slice none 0 0∧n=0∧cs=[]
   |_=>False
 | .sl t n sz cs,y=>match y with
   | .sl t' n' sz' cs'=>(t=true∨t=t')∧n=n'∧sz=sz'∧(cs=cs'∨sS cs cs')
   |_=>False
 | .cp t ds,y=> .cp t ds=y
 | .fn f cs,y=> .fn f cs=y
def sS:List D→List D→Prop
 |[],ys=>match ys with
  |[]=>True
  |_=>False
 |x::xs,ys=>match ys with
  |y::ys=>leD x y∧sS xs ys
  |[]=>False
end
mutual
theorem xZ:∀{x y:D},leD x y→D.le x y
 | .v a,.v b,h=>by
   have:a=b:=by
    simp only[leD] at h
    split at h
    ·obtain⟨rfl,rfl⟩:=h;rfl
    ·subst h;rfl
    ·exact h
   subst this;exact .refl _
 | .v a,.sl t n sz cs,h=>by
   simp only[leD] at h
   obtain⟨rfl,rfl,rfl⟩:=h;exact .nil _ _
 | .v _,.cp _ _,h=>by simp only[leD] at h
 | .v _,.fn _ _,h=>by simp only[leD] at h
 | .sl t n sz cs,.sl t' n' sz' cs',h=>by
   simp only[leD] at h
   obtain⟨h1,rfl,rfl,h2⟩:=h
   have e1:D.le (.sl t n sz cs) (.sl t' n sz cs):=by
    rcases h1 with rfl|rfl
    ·exact .tag _ _ _ _
    ·exact .refl _
   rcases h2 with rfl|h2
   ·exact e1
   ·obtain⟨k1,k2⟩:=nW h2
    exact .trans e1 (.sl k1 k2)
 | .sl _ _ _ _,.v _,h=>by simp only[leD] at h
 | .sl _ _ _ _,.cp _ _,h=>by simp only[leD] at h
 | .sl _ _ _ _,.fn _ _,h=>by simp only[leD] at h
 | .cp t ds,y,h=>by simp only[leD] at h;subst h;exact .refl _
 | .fn f cs,y,h=>by simp only[leD] at h;subst h;exact .refl _
theorem nW:∀{xs ys:List D},sS xs ys→xs.length=ys.length∧∀(i:Nat) x y,xs[i]?=some x→ys[i]?=some y→D.le x y
 |[],[],_=>⟨rfl,fun i x y hx=>by simp at hx⟩
 |[],_::_,h=>by simp only[sS] at h
 |_::_,[],h=>by simp only[sS] at h
 |x::xs,y::ys,h=>by
  simp only[sS] at h
  obtain⟨k1,k2⟩:=nW h.2
  refine⟨by simp[k1],fun i a b ha hb=> ?_⟩
  cases i with
  |zero=>simp at ha hb;subst ha hb;exact xZ h.1
  |succ i=>exact k2 i a b (by simpa using ha) (by simpa using hb)
end
mutual
def leW:AV→AV→Prop
 | .d x,v=>match v with
   | .d y=>leD x y
   |_=>False
 | .own k n sz e cs,v=>match v with
   | .d (.sl _ n' sz' cs')=>n=n'∧sz=sz'∧cs=cs'
   | .own k' n' sz' e' cs'=>k=k'∧n=n'∧sz=sz'∧e=e'∧cs=cs'
   |_=>False
 | .ptr k o,v=>match v with
   | .ptr k' o'=>k=k'∧o=o'
   |_=>False
 | .agg us,v=>match v with
   | .agg vs=>Oc us vs
   |_=>False
 | .tup us,v=>match v with
   | .tup vs=>Oc us vs
   |_=>False
 | .sem φ,v=>match v with
   | .sem ψ=>φ=ψ
   | .d y=>∃x,AV.sem φ=AV.fz x∧x.un=y
   |_=>False
 | .cl f fs cs,v=>AV.cl f fs cs=v
 | .pk k o n sz,v=>AV.pk k o n sz=v
def Oc:List AV→List AV→Prop
 |[],vs=>match vs with
  |[]=>True
  |_=>False
 |u::us,vs=>match vs with
  |v::vs=>leW u v∧Oc us vs
  |[]=>False
end
mutual
theorem kO:∀{u v:AV},leW u v→AV.le u v
 | .d x,.d y,h=> .d (xZ (by simpa only[leW] using h))
 | .own k n sz e cs,.d (.sl t n' sz' cs'),h=>by simp only[leW] at h;obtain⟨rfl,rfl,rfl⟩:=h;exact .own _ _ _ _ _ _
 | .own k n sz e cs,.own k' n' sz' e' cs',h=>by simp only[leW] at h;obtain⟨rfl,rfl,rfl,rfl,rfl⟩:=h;exact .refl _
 | .ptr k o,.ptr k' o',h=>by simp only[leW] at h;obtain⟨rfl,rfl⟩:=h;exact .refl _
 | .agg us,.agg vs,h=>AV.le_agg (Jw (by simpa only[leW] using h))
 | .tup us,.tup vs,h=>AV.le_tup (Jw (by simpa only[leW] using h))
 | .cl f fs cs,v,h=>by simp only[leW] at h;subst h;exact .refl _
 | .pk k o n sz,v,h=>by simp only[leW] at h;subst h;exact .refl _
 | .d _,.cl _ _ _,h=>by simp only[leW] at h
 | .d _,.pk _ _ _ _,h=>by simp only[leW] at h
 | .ptr _ _,.cl _ _ _,h=>by simp only[leW] at h
 | .ptr _ _,.pk _ _ _ _,h=>by simp only[leW] at h
 | .own _ _ _ _ _,.cl _ _ _,h=>by simp only[leW] at h
 | .own _ _ _ _ _,.pk _ _ _ _,h=>by simp only[leW] at h
 | .agg _,.cl _ _ _,h=>by simp only[leW] at h
 | .agg _,.pk _ _ _ _,h=>by simp only[leW] at h
 | .tup _,.cl _ _ _,h=>by simp only[leW] at h
 | .tup _,.pk _ _ _ _,h=>by simp only[leW] at h
 | .sem _,.cl _ _ _,h=>by simp only[leW] at h
 | .sem _,.pk _ _ _ _,h=>by simp only[leW] at h
 | .sem φ,.sem ψ,h=>by simp only[leW] at h;subst h;exact .refl _
 | .sem φ,.d y,h=>by simp only[leW] at h;obtain⟨x,h1,rfl⟩:=h;rw[h1];exact .z x
 | .sem _,.ptr _ _,h=>by simp only[leW] at h
 | .sem _,.own _ _ _ _ _,h=>by simp only[leW] at h
 | .sem _,.agg _,h=>by simp only[leW] at h
 | .sem _,.tup _,h=>by simp only[leW] at h
 | .d _,.sem _,h=>by simp only[leW] at h
 | .ptr _ _,.sem _,h=>by simp only[leW] at h
 | .own _ _ _ _ _,.sem _,h=>by simp only[leW] at h
 | .agg _,.sem _,h=>by simp only[leW] at h
 | .tup _,.sem _,h=>by simp only[leW] at h
 | .d _,.ptr _ _,h=>by simp only[leW] at h
 | .d _,.own _ _ _ _ _,h=>by simp only[leW] at h
 | .d _,.agg _,h=>by simp only[leW] at h
 | .d _,.tup _,h=>by simp only[leW] at h
 | .own _ _ _ _ _,.d (.v _),h=>by simp only[leW] at h
 | .own _ _ _ _ _,.d (.cp _ _),h=>by simp only[leW] at h
 | .own _ _ _ _ _,.d (.fn _ _),h=>by simp only[leW] at h
 | .own _ _ _ _ _,.ptr _ _,h=>by simp only[leW] at h
 | .own _ _ _ _ _,.agg _,h=>by simp only[leW] at h
 | .own _ _ _ _ _,.tup _,h=>by simp only[leW] at h
 | .ptr _ _,.d _,h=>by simp only[leW] at h
 | .ptr _ _,.own _ _ _ _ _,h=>by simp only[leW] at h
 | .ptr _ _,.agg _,h=>by simp only[leW] at h
 | .ptr _ _,.tup _,h=>by simp only[leW] at h
 | .agg _,.d _,h=>by simp only[leW] at h
 | .agg _,.own _ _ _ _ _,h=>by simp only[leW] at h
 | .agg _,.ptr _ _,h=>by simp only[leW] at h
 | .agg _,.tup _,h=>by simp only[leW] at h
 | .tup _,.d _,h=>by simp only[leW] at h
 | .tup _,.own _ _ _ _ _,h=>by simp only[leW] at h
 | .tup _,.ptr _ _,h=>by simp only[leW] at h
 | .tup _,.agg _,h=>by simp only[leW] at h
theorem Jw:∀{us vs:List AV},Oc us vs→AV.les us vs
 |[],[],_=> .nil
 |u::us,v::vs,h=>by simp only[Oc] at h;exact .cons (kO h.1) (Jw h.2)
 |[],_::_,h=>by simp only[Oc] at h
 |_::_,[],h=>by simp only[Oc] at h
end
theorem Bk {P:Program} {f:FuncId} {args fs:List AV} {A:AV→Prop} {r:AV} (h:Ab P f fs (fun r'=>r'=r)) (e:Oc args fs) (k:A r):NCall P f args A:=⟨r,h.les (Jw e),k⟩
theorem yA:∀x:D,leD x x
 | .v a=>by cases a<;>simp only[leD]<;>first|trivial|exact⟨trivial,trivial⟩
 | .sl t n sz cs=>by simp only[leD];exact⟨.inr trivial,trivial,trivial,.inl trivial⟩
 | .cp t ds=>by simp only[leD]
 | .fn f cs=>by simp only[leD]
mutual
theorem Be:∀u:AV,leW u u
 | .d x=>by simp only[leW];exact yA x
 | .own k n sz e cs=>by simp only[leW];exact⟨trivial,trivial,trivial,trivial,trivial⟩
 | .ptr k o=>by simp only[leW];exact⟨trivial,trivial⟩
 | .agg us=>by simp only[leW];exact D2 us
 | .tup us=>by simp only[leW];exact D2 us
 | .sem φ=>by simp only[leW]
 | .cl f fs cs=>by simp only[leW]
 | .pk k o n sz=>by simp only[leW]
theorem D2:∀us:List AV,Oc us us
 |[]=>by simp only[Oc]
 |u::us=>by simp only[Oc];exact⟨Be u,D2 us⟩
end
def FP (tk:TK) (k n sz:Nat) (e:TypeId) (n' sz':Nat) (e':TypeId) (cs cs':List D):Prop:=
 match lk k tk with
 |some (a,b,c)=>(a=n∧b=sz∧c=e)∧n=n'∧sz=sz'∧e=e'∧cs=cs'
 |none=>False
def yB (tk:TK) (u X:AV):Prop:=
 match X with
 | .own 0 n' sz' e' cs'=>(match u with
   | .own k n sz e cs=>FP tk k n sz e n' sz' e' cs cs'
   |_=>False)
 | .tup (.own 0 n' sz' e' cs'::rs)=>(match u with
   | .tup (.own k n sz e cs::us)=>FP tk k n sz e n' sz' e' cs cs'∧AV.datas rs=true∧Oc us rs
   |_=>False)
 |X=>X.data=true∧leW u X
theorem nX {tm:TM} {bx:BX} {tk:TK} {k n sz:Nat} {e:TypeId} {n' sz':Nat} {e':TypeId} {cs cs':List D} (h:FP tk k n sz e n' sz' e' cs cs'):lk k (AS.mk tm bx tk).tk=some (n,sz,e)∧n=n'∧sz=sz'∧e=e'∧cs=cs':=by
 unfold FP at h
 split at h
 ·rename_i a b c hk
  obtain⟨⟨rfl,rfl,rfl⟩,h⟩:=h
  exact⟨hk,h⟩
 ·exact h.elim
theorem yC {tm:TM} {bx:BX} {tk:TK} {u X:AV} (h:yB tk u X):Fini ⟨tm,bx,tk⟩ u X:=by
 unfold yB at h
 split at h
 ·split at h
  ·obtain⟨h1,rfl,rfl,rfl,rfl⟩:=nX (tm:=tm) (bx:=bx) h
   exact .own h1
  ·exact h.elim
 ·split at h
  ·obtain⟨h,hd,hl⟩:=h
   obtain⟨h1,rfl,rfl,rfl,rfl⟩:=nX (tm:=tm) (bx:=bx) h
   exact .tup h1 hd (Jw hl)
  ·exact h.elim
 ·exact .data h.1 (kO h.2)
theorem A7 {tm:TM} {bx:BX} {tk:TK} {u X:AV} (h:yB tk u X):NEnd tm bx tk u (fun r=>r=X):=⟨X,yC h,rfl⟩
theorem NEnd.of {tm:TM} {bx:BX} {tk:TK} {u:AV} {Φ:AV→Prop} (X:AV) (h:yB tk u X) (hX:Φ X):NEnd tm bx tk u Φ:=⟨X,yC h,hX⟩
mutual
def AV.dat:AV→AV
 | .d x=> .d x
 | .ptr k o=> .ptr k o
 | .own _ n sz _ cs=> .d (.sl true n sz cs)
 | .agg cs=> .agg (AV.dats cs)
 | .tup cs=> .tup (AV.dats cs)
 | .sem φ=> .sem φ
 | .cl f fs cs=> .cl f fs cs
 | .pk k o n sz=> .pk k o n sz
def AV.dats:List AV→List AV
 |[]=>[]
 |c::r=>c.dat::AV.dats r
end
mutual
theorem AV.le_dat:∀u:AV,AV.le u u.dat
 | .d _=> .refl _
 | .ptr _ _=> .refl _
 | .own _ _ _ _ _=> .own _ _ _ _ _ _
 | .agg cs=>AV.le_agg (AV.les_dats cs)
 | .tup cs=>AV.le_tup (AV.les_dats cs)
 | .sem _=> .refl _
 | .cl _ _ _=> .refl _
 | .pk _ _ _ _=> .refl _
theorem AV.les_dats:∀us:List AV,AV.les us (AV.dats us)
 |[]=> .nil
 |u::us=> .cons (AV.le_dat u) (AV.les_dats us)
end
theorem Cg {tm:TM} {bx:BX} {tk:TK} {u:AV} {Φ:AV→Prop} (h:u.dat.data=true) (hX:Φ u.dat):NEnd tm bx tk u Φ:=⟨u.dat,.data h (AV.le_dat u),hX⟩
noncomputable def LE (tm σ:TM):Prop:=@List.rec (Nat×AV) (fun _=>Prop) True (fun p _ ih=>(match lk p.1 tm with
 |some u=>leW u p.2
 |none=>False)∧ih) σ
noncomputable def LF (bx σ:BX):Prop:=@List.rec (Nat×List AV) (fun _=>Prop) True (fun p _ ih=>(match lk p.1 bx with
 |some u=>Oc u p.2
 |none=>False)∧ih) σ
noncomputable def LG (tk σ:TK):Prop:=@List.rec (Nat×Nat×Nat×TypeId) (fun _=>Prop) True (fun p _ ih=>(match lk p.1 tk with
 |some u=>u=p.2
 |none=>False)∧ih) σ
noncomputable def wkW (tm:TM) (bx:BX) (tk:TK) (σ:AS):Prop:=LE tm σ.tm∧LF bx σ.bx∧LG tk σ.tk
theorem LH {tm:TM} {bx:BX} {tk:TK} {σ:AS} (h:wkW tm bx tk σ):KJ ⟨tm,bx,tk⟩ σ:=by
 obtain⟨h1,h2,h3⟩:=h
 obtain⟨t,b,q⟩:=σ
 refine EK ?_ ?_ ?_
 ·have gen:∀l:TM,LE tm l→wkT ⟨tm,bx,tk⟩ l:=by
   intro l
   induction l with
   |nil=>intro _;exact trivial
   |cons p r ih=>
    intro h
    obtain⟨k,u'⟩:=p
    obtain⟨h4,h5⟩:(match lk k tm with|some u=>leW u u'|none=>False)∧LE tm r:=h
    split at h4
    ·rename_i u hu;exact⟨⟨u,hu,kO h4⟩,ih h5⟩
    ·exact h4.elim
  exact gen t h1
 ·have gen:∀l:BX,LF bx l→wkB ⟨tm,bx,tk⟩ l:=by
   intro l
   induction l with
   |nil=>intro _;exact trivial
   |cons p r ih=>
    intro h
    obtain⟨k,u'⟩:=p
    obtain⟨h4,h5⟩:(match lk k bx with|some u=>Oc u u'|none=>False)∧LF bx r:=h
    split at h4
    ·rename_i u hu;exact⟨⟨u,hu,Jw h4⟩,ih h5⟩
    ·exact h4.elim
  exact gen b h2
 ·have gen:∀l:TK,LG tk l→wkK ⟨tm,bx,tk⟩ l:=by
   intro l
   induction l with
   |nil=>intro _;exact trivial
   |cons p r ih=>
    intro h
    obtain⟨k,u'⟩:=p
    obtain⟨h4,h5⟩:(match lk k tk with|some u=>u=u'|none=>False)∧LG tk r:=h
    split at h4
    ·rename_i u hu;exact⟨by rw[←h4];exact hu,ih h5⟩
    ·exact h4.elim
  exact gen q h3
theorem J9 {tm:TM} {bx:BX} {tk:TK} {σ:AS} (h:wkW tm bx tk σ):Ent ⟨tm,bx,tk⟩ σ:=fun _ _ _ hG=>hG.weak (LH h)
theorem sT {σ:AS} (t sz:Nat) (e:TypeId) (hb:lk t σ.tm=some (.d (.v (.slice none 0 0)))) (hc:σ.clean t=true):Ent σ ⟨(t,.own t 0 sz e [])::σ.tm,σ.bx,(t,0,sz,e)::σ.tk⟩:=by
 rintro C a w ⟨bm,gt,fp,hg⟩
 obtain⟨v,k1,k2⟩:=hg.tm t _ hb
 have hA:=hg.adopt hc sz e
 have hR:RA C.W.heap.size fp w bm (H6 gt t (.slice none 0 0)) (.own t 0 sz e []) v:=by
  rw[k2.val]
  have:H6 gt t (.slice none 0 0) t= .slice none 0 0:=Cb _ _ _
  conv=>rhs;rw[←this]
  refine .own ?_
  rw[this]
  exact Gq _ _
 refine⟨_,_,_,{hA with tm:=fun s u hu=> ?_}⟩
 by_cases e:t=s
 ·subst e
  simp only[Bs,Option.some.injEq] at hu
  subst hu
  exact⟨v,k1,hR⟩
 ·simp only[Cf _ _ e] at hu
  exact hA.tm s u hu
theorem kP {σ:AS} (q off k sz:Nat) (e:TypeId) {cs:List AV} (hb:lk q σ.bx=some cs) (hn:cs[off]?=some (.d (.v (.slice none 0 0)))) (hc:σ.clean k=true):Ent σ ⟨σ.tm,(q,cs.set off (.own k 0 sz e []))::σ.bx,(k,0,sz,e)::σ.tk⟩:=by
 rintro C a w ⟨bm,gt,fp,hg⟩
 have hA:=hg.adopt hc sz e
 have hB:=hA.bx q cs hb
 have hlt:off<cs.length:=(Aw.1 hn).1
 have hnew:BoxOk C.W.heap.size fp w bm (H6 gt k (.slice none 0 0)) (bm q) (cs.set off (.own k 0 sz e [])):=by
  obtain⟨cur,et,h1,h2,h3⟩:=hB.obj
  refine⟨hB.own,hB.un,cur,et,h1,by rw[List.length_set];exact h2,fun i u v hu hv=> ?_⟩
  by_cases ho:off=i
  ·subst ho
   rw[List.getElem?_set_self hlt] at hu
   cases hu
   have hv2:=(h3 off _ v hn hv).val
   rw[hv2]
   have:H6 gt k (.slice none 0 0) k= .slice none 0 0:=Cb _ _ _
   conv=>rhs;rw[←this]
   refine .own ?_
   rw[this]
   exact Gq _ _
  ·rw[List.getElem?_set_ne ho] at hu
   exact h3 i u v hu hv
 refine⟨_,_,_,{hA with bx:=fun j c hj=> ?_,bxi:=fun j j' c c' hj hj'=> ?_,tkb:=fun j j' x c hj hj'=> ?_}⟩
 ·by_cases ej:q=j
  ·subst ej;simp only[Bs,Option.some.injEq] at hj;subst hj;exact hnew
  ·simp only[Cf _ _ ej] at hj;exact hA.bx j c hj
 ·have hh:∀j c,lk j ((q,cs.set off (.own k 0 sz e []))::σ.bx)=some c→∃c',lk j σ.bx=some c':=fun j c hj=>by
   by_cases ej:q=j
   ·subst ej;exact⟨cs,hb⟩
   ·simp only[Cf _ _ ej] at hj;exact⟨c,hj⟩
  obtain⟨d,hd⟩:=hh j c hj
  obtain⟨d',hd'⟩:=hh j' c' hj'
  exact hA.bxi j j' d d' hd hd'
 ·by_cases ej:q=j'
  ·subst ej;exact hA.tkb j q x cs hj hb
  ·simp only[Cf _ _ ej] at hj';exact hA.tkb j j' x c hj hj'
inductive Ad where
 |s (t sz:Nat) (e:TypeId)
 |b (q off k sz:Nat) (e:TypeId)
noncomputable def adW (ad:List Ad):TM→BX→TK→KS→Prop:=
 @List.rec Ad (fun _=>TM→BX→TK→KS→Prop) (fun tm bx tk K=>K tm bx tk) (fun p _ ih tm bx tk K=>match p with
  | .s t sz e=>(match lk t tm with
    |some (.d (.v (.slice none 0 0)))=>bif clT t tm&&clB t bx then ih ((t,.own t 0 sz e [])::tm) bx ((t,0,sz,e)::tk) K else False
    |_=>False)
  | .b q off k sz e=>(match lk q bx with
    |some cs=>(match cs[off]? with
     |some (.d (.v (.slice none 0 0)))=>bif clT k tm&&clB k bx then Dm (cs.set off (.own k 0 sz e [])) (fun cs'=>ih tm ((q,cs')::bx) ((k,0,sz,e)::tk) K) else False
     |_=>False)
    |none=>False)) ad
theorem kQ {σ:AS}:∀{ad:List Ad} {tm:TM} {bx:BX} {tk:TK},adW ad tm bx tk (fun tm bx tk=>wkW tm bx tk σ)→Ent ⟨tm,bx,tk⟩ σ
 |[],tm,bx,tk,h=>J9 h
 | .s t sz e::r,tm,bx,tk,h=>by
   have h':(match lk t tm with
    |some (.d (.v (.slice none 0 0)))=>bif clT t tm&&clB t bx then adW r ((t,.own t 0 sz e [])::tm) bx ((t,0,sz,e)::tk) (fun tm bx tk=>wkW tm bx tk σ) else False
    |_=>False):=h
   clear h
   split at h'
   ·rename_i hl
    cases hc:(clT t tm&&clB t bx) with
    |true=>
     rw[hc] at h'
     exact fun C a w hG=>kQ h' C a w (sT (σ:=⟨tm,bx,tk⟩) t sz e hl hc C a w hG)
    |false=>rw[hc] at h';exact h'.elim
   ·exact h'.elim
 | .b q off k sz e::r,tm,bx,tk,h=>by
   have h':(match lk q bx with
    |some cs=>(match cs[off]? with
     |some (.d (.v (.slice none 0 0)))=>bif clT k tm&&clB k bx then Dm (cs.set off (.own k 0 sz e [])) (fun cs'=>adW r tm ((q,cs')::bx) ((k,0,sz,e)::tk) (fun tm bx tk=>wkW tm bx tk σ)) else False
     |_=>False)
    |none=>False):=h
   clear h
   split at h'
   ·rename_i cs hq
    split at h'
    ·rename_i hn
     cases hc:(clT k tm&&clB k bx) with
     |true=>
      rw[hc] at h'
      have h':=Cc h'
      exact fun C a w hG=>kQ h' C a w (kP (σ:=⟨tm,bx,tk⟩) q off k sz e hq hn hc C a w hG)
     |false=>rw[hc] at h';exact h'.elim
    ·exact h'.elim
   ·exact h'.elim
theorem Ax {α:Type} {tm:TM} {bx:BX} {tk:TK} {R:KS→KS} (inv:α→Prop) (ms:α→Nat) (st:α→AS) (a0:α) (h0:inv a0) (w0:wkW tm bx tk (st a0))
 (round:∀a,inv a→R (fun tm' bx' tk'=>∃a',inv a'∧ms a'<ms a∧wkW tm' bx' tk' (st a')) (st a).tm (st a).bx (st a).tk):NLoop tm bx tk R:=
 ⟨α,inv,ms,st,fun a b=>wkW a.tm a.bx a.tk b,a0,fun _ _ h=>J9 h,h0,J9 w0,round⟩
theorem A5 {α:Type} {tm:TM} {bx:BX} {tk:TK} {R:KS→KS} (ad:List Ad) (inv:α→Prop) (ms:α→Nat) (st:α→AS) (a0:α) (h0:inv a0) (w0:adW ad tm bx tk (fun tm bx tk=>wkW tm bx tk (st a0)))
 (round:∀a,inv a→R (fun tm' bx' tk'=>∃a',inv a'∧ms a'<ms a∧wkW tm' bx' tk' (st a')) (st a).tm (st a).bx (st a).tk):NLoop tm bx tk R:=
 ⟨α,inv,ms,st,fun a b=>wkW a.tm a.bx a.tk b,a0,fun _ _ h=>J9 h,h0,kQ w0,round⟩
theorem leQ {p:Prop} (h:p:=by((repeat'(first|exact trivial|exact Be _|refine And.intro ?_ ?_|exact rfl|exact Or.inr rfl|exact Or.inl rfl|exact Or.inl (by rfl)|omega|(dsimp only;omega)));first|done|fail)):p:=h
theorem Mq {p:Prop} (h:p:=by((repeat'(first|exact trivial|exact Be _|refine And.intro ?_ ?_|exact rfl|exact Or.inr rfl|exact Or.inl rfl|exact Or.inl (by rfl)|omega|refine Or.inr ?_));first|done|fail)):p:=h
theorem gvQ {p:Prop} (h:p:=by first|rfl|(simp only[AV.gives,AV.ren,AV.give,D.un,D.uns,An,Ao,List.nil_append,List.append_nil,List.cons_append];first|done|rfl)):p:=h
theorem asP {p:Prop} (h:p:=by assumption):p:=h
theorem asQ {p:Prop} (h:p:=by with_reducible assumption):p:=h
theorem zP {b:Bool} {A B:Prop} (h:A) (e:b=true:=by with_reducible assumption):NBr b A B:=Ay e h
theorem zN {b:Bool} {A B:Prop} (h:B) (e:b=false:=by with_reducible assumption):NBr b A B:=A0 e h
theorem zF {F A:Prop} (k:A) (h:F:=by exact⟨by decide+kernel,by kernel_rfl⟩):NFact F A:=Au h k
theorem zE {tm:TM} {bx:BX} {tk:TK} {u X:AV} (h:yB tk u X:=by((repeat'(first|exact trivial|exact Be _|refine And.intro ?_ ?_|exact rfl|exact Or.inr rfl|exact Or.inl rfl|exact Or.inl (by rfl)|omega|(dsimp only;omega)));first|done|fail)):NEnd tm bx tk u (fun r=>r=X):=A7 h
theorem zS:(∀(α:Type) (a:α) (l:List α),(a::l).length=l.length+1)∧(∀(α:Type),([]:List α).length=0)∧(∀(α:Type) (a b:List α),(a++b).length=a.length+b.length)∧(∀(p:Prop) [Decidable p],(decide p=true)=p)∧(∀(p:Prop) [Decidable p],(decide p=false)=¬p)∧(∀(α:Type) [BEq α] [LawfulBEq α] (a b:α),((a !=b)=true)=(a≠b))∧(∀(α:Type) [BEq α] [LawfulBEq α] (a b:α),((a==b)=true)=(a=b))∧(∀(α:Type) [BEq α] [LawfulBEq α] (a b:α),((a !=b)=false)=(a=b))∧(∀(α:Type) [BEq α] [LawfulBEq α] (a b:α),((a==b)=false)=(a≠b))∧(∀(α:Type) (a b:α),(a≠b)=¬(a=b))∧(∀b:Bool,((!b)=true)=(b=false))∧(∀b:Bool,((!b)=false)=(b=true)):=⟨fun _ _ _=>Ag,fun _=>List.length_nil,fun _ _ _=>Ap,fun _ _=>decide_eq_true_eq,fun _ _=>propext decide_eq_false_iff_not,fun _ _ _ _ _=>propext bne_iff_ne,fun _ _ _ _ _=>propext beq_iff_eq,fun _ _ _ _ _=>propext bne_eq_false_iff_eq,fun _ _ _ _ _=>propext beq_eq_false_iff_ne,fun _ _ _=>rfl,fun b=>by cases b<;>simp,fun b=>by cases b<;>simp⟩
theorem GG.takeBox {C:Cx} {bm:BM} {gt:Nat→Value} {fp:Nat→Nat→Prop} {σ:AS} {a:Act} {w w':World} (h:GG C bm gt fp σ a w) {k g:Nat} (hb0:Below w.heap.size w w') (hc:σ.clean k=true) {cs:List AV} (hcc:AV.cleans k cs=true) {cur:Array Value} {e:TypeId} (hg:w.heap.size≤g) (hobj:w'.heap[g]?=some (.cells cur e (0,0)))
 (hl:cs.length≤cur.size) (hr:∀(i:Nat) u v,cs[i]?=some u→cur[i]?=some v→RA C.W.heap.size fp w' bm gt u v):
 GG C (bm.set k g) gt fp {σ with bx:=(k,cs)::σ.bx} a w':=by
 have h':=h.grow hb0
 simp only[AS.clean,At] at hc
 have turn:∀{u v w2},RA C.W.heap.size fp w2 bm gt u v→u.clean k=true→RA C.W.heap.size fp w2 (bm.set k g) gt u v:=fun hr hcl=>hr.turn (k:=k) (fun j hj=>BM.set_ne bm k _ hj) (fun _ _ x=>x) (fun _ _=>rfl) hcl
 refine{sz:=h.sz,nN:=h.nN,gd:=h.gd,za:=h.za,zb:=h.zb,zf:=h.zf,ztk:=h.ztk,df:=h.df,tm:=fun t u hu=> ?_,bx:=fun j c hj=> ?_,bxi:=fun j j' c c' hj hj' he=> ?_,tk:=h'.tk,tki:=h.tki,tkb:=fun j j' x c hj hj'=> ?_,fpb:=h'.fpb,fp0:=h.fp0,fpB:=h.fpB,bel:=h'.bel}
 ·obtain⟨v,h1,h2⟩:=h'.tm t u hu
  exact⟨v,h1,turn h2 (Zw hc.1 hu)⟩
 ·by_cases ej:k=j
  ·subst ej
   simp only[Bs,Option.some.injEq] at hj
   subst hj
   refine⟨?_,fun o hf=> ?_,cur,e,?_,hl,fun i u v hu hv=> ?_⟩
   ·rw[BM.set_same];exact Nat.le_trans h.bel.size hg
   ·rw[BM.set_same] at hf;have:=(h.fpb _ _ hf).2;omega
   ·rw[BM.set_same];exact hobj
   ·exact turn (hr i u v hu hv) (AV.cleans_get hcc hu)
  ·simp only[Cf _ _ ej] at hj
   have hy:=h'.bx j c hj
   obtain⟨cur2,e2,h1,h2,h3⟩:=hy.obj
   have hne:(bm.set k g).m j=bm.m j:=BM.set_ne bm k _ (fun e=>ej e.symm)
   refine⟨by rw[hne];exact hy.own,by rw[hne];exact hy.un,cur2,e2,by rw[hne];exact h1,h2,fun i u v hu hv=>turn (h3 i u v hu hv) (AV.cleans_get (Zx hc.2 hj) hu)⟩
 ·have lt:∀(i:Nat) d,k≠i→lk i ((k,cs)::σ.bx)=some d→lk i σ.bx=some d∧bm i<w.heap.size:=fun i d hne hd=>by
   rw[Cf _ _ hne] at hd;exact⟨hd,(h.bx i d hd).lt⟩
  by_cases e1:j=k
  ·by_cases e2:j'=k
   ·rw[e1,e2]
   ·rw[e1,BM.set_same,BM.set_ne bm k _ e2] at he
    have:=(lt j' c' (fun e=>e2 e.symm) hj').2
    omega
  ·by_cases e2:j'=k
   ·rw[e2,BM.set_same,BM.set_ne bm k _ e1] at he
    have:=(lt j c (fun e=>e1 e.symm) hj).2
    omega
   ·rw[BM.set_ne bm k _ e1,BM.set_ne bm k _ e2] at he
    exact h.bxi j j' c c' (lt j c (fun e=>e1 e.symm) hj).1 (lt j' c' (fun e=>e2 e.symm) hj').1 he
 ·by_cases e2:j'=k
  ·rw[e2,BM.set_same]
   obtain⟨xs,hxs⟩:=(h.tk j x.1 x.2.1 x.2.2 hj).own
   intro ho
   have:=(hxs.lt _ ho).2
   omega
  ·rw[BM.set_ne bm k _ e2]
   simp only[Cf _ _ (fun e=>e2 e.symm:k≠j')] at hj'
   exact h.tkb j j' x c hj hj'
def D.flat:D→Bool
 | .v _=>true
 |_=>false
def AV.flat0:AV→Bool
 | .d x=>x.flat
 |_=>false
theorem RA.flat0 {B B':Nat} {fp fp':Nat→Nat→Prop} {w w':World} {bm bm':BM} {gt gt':Nat→Value} {u:AV} {v:Value} (h:RA B fp w bm gt u v) (hf:u.flat0=true):RA B' fp' w' bm' gt' u v:=by
 cases u with
 |d x=>
  cases x with
  |v x=>rw[h.val];exact .d (.v x)
  |_=>cases hf
 |_=>cases hf
def Yh (l:List D):Bool:=l.all D.flat
def yD (l:List AV):Bool:=l.all AV.flat0
theorem Mr (l:List UInt8):Yh (Ak l)=true:=by
 unfold Yh Ak
 rw[List.all_eq_true]
 intro x hx
 obtain⟨b,-,rfl⟩:=List.mem_map.1 hx
 rfl
theorem Gs (k:Nat):∀l:List D,AV.cleans k (l.map AV.d)=true
 |[]=>rfl
 |x::r=>by rw[List.map_cons,AV.cleans,Gs k r];rfl
section
variable {P:Program} {C:Cx} {o:Oper} {σ:AS} {t:Nat}
theorem GG.backX {bm:BM} {gt:Nat→Value} {fp:Nat→Nat→Prop} {a:Act} {w w':World} (h:GG C bm gt fp σ a w) {κ:Nat} (hc:σ.clean κ=true) {n sz:Nat} {e:TypeId} {cs:List D} {v:Value} (hb:Below w.heap.size w w') (hn:0<n) (hcs:Yh cs=true) {fpc:Nat→Nat→Prop} {zc:Nat→Nat→Prop} {gtc:Nat→Value}
 (hra:RA w.heap.size fpc w' ⟨fun _=>0,zc⟩ gtc (.own 0 n sz e cs) v) (htok:TokOk w.heap.size fpc w' (gtc 0) n sz e):
 ∃g,GG C (bm.set κ g) gt fp {σ with bx:=(κ,cs.map AV.d)::σ.bx} a w'∧RA C.W.heap.size fp w' (bm.set κ g) gt (.pk κ 0 n sz) v:=by
 generalize hq:AV.own 0 n sz e cs=q at hra
 cases hra with
 |own hx=>
  cases hq
  obtain⟨xs,hxl,hxs⟩:=htok.own
  rcases hxs with⟨h1,h2⟩|⟨g,cap,cur,h1,h2,h3,h4,h5,h6,h7⟩
  ·omega
  ·rw[h1] at hx
   generalize hv:Value.slice (some ⟨g,0,none⟩) n cap=u at hx
   cases hx with
   |sl us k1 k2 k3 k4 k5 k6 k7 k8=>
    cases hv
    have hcur:∀(i:Nat) u,us[i]?=some u→cur[i]?=some u:=fun i u hu=>by
     obtain⟨b,o',e1,-,-,e4⟩:=k8 i u hu
     cases e1
     rw[cell_of_row w' _ _ _ _ _ h3,Nat.zero_add] at e4
     exact e4
    have hlen:cs.length≤cur.size:=by
     rw[k3,h6];exact Nat.mul_le_mul_right _ h4
    refine⟨g,h.takeBox hb hc (Gs κ cs) h2 h3 (by rw[List.length_map];exact hlen) (fun i u v hu hv=> ?_),?_⟩
    ·rw[List.getElem?_map,Option.map_eq_some_iff] at hu
     obtain⟨d,hd,rfl⟩:=hu
     have hlt:=(Aw.1 hd).1
     have hus:us[i]?=some us[i]:=Am (by omega)
     have:=k7 i d _ hd hus
     have e:=hcur i _ hus
     rw[hv] at e
     cases e
     have hf:d.flat=true:=List.all_eq_true.1 hcs d (A8 hd)
     exact(RA.d (gt:=gt) (bm:=bm) this).flat0 hf
    ·rw[h1]
     have hh:RA C.W.heap.size fp w' (bm.set κ g) gt (.pk κ 0 n sz) (.slice (some ⟨(bm.set κ g).m κ,0,none⟩) n cap):= .pk k1 k2
     rw[BM.set_same] at hh
     exact hh
 |d=>cases hq
 |ptr=>cases hq
 |agg=>cases hq
 |tup=>cases hq
 |sem=>cases hq
 |cl=>cases hq
 |pk=>cases hq
theorem GG.backX' {bm:BM} {gt:Nat→Value} {fp:Nat→Nat→Prop} {a:Act} {w w':World} (h:GG C bm gt fp σ a w) (ht:t<C.N) {κ:Nat} (hc:σ.clean κ=true) {n sz:Nat} {e:TypeId} {cs:List D} {rs:List AV} {v:Value} (hb:Below w.heap.size w w') (hn:0<n) (hcs:Yh cs=true) (hrs:yD rs=true)
 (hr:Kt w fp bm.z w' (.tup (.own 0 n sz e cs::rs)) v):G C ⟨(t,.tup (.pk κ 0 n sz::rs))::σ.tm,(κ,cs.map AV.d)::σ.bx,σ.tk⟩ (a.put (some t) v) w':=by
 obtain⟨hok,fpc,gtc,zc,hfc,hra,htok,hzA,hzB,hzC⟩:=hr
 cases hra with
 |tup vs h4 h7=>
  cases vs with
  |nil=>simp at h4
  |cons v0 vs=>
   obtain⟨g,h1,h2⟩:=h.backX hc hb hn hcs (h7 0 _ v0 rfl rfl) (htok n sz e rfl).1
   refine⟨_,_,_,h1.put ht (.tup (v0::vs) (by simpa using h4) fun i u x hu hx=> ?_)⟩
   cases i with
   |zero=>simp at hu hx;subst hu hx;exact h2
   |succ i=>
    have hu':rs[i]?=some u:=by simpa using hu
    exact(h7 (i+1) u x (by simpa using hu') hx).flat0 (List.all_eq_true.1 hrs u (A8 hu'))
theorem kR {f:FuncId} {args:Array Operand} {ats:Array TypeId} {us fs:List AV} {n sz:Nat} {e:TypeId} {cs:List D} {rs:List AV} (ho:o.op= .call {callee:= .value (.func f),args:=args,argTypes:=ats}) (hd:o.dst=some t) (ht:t<C.N) {κ:Nat} (hc:σ.clean κ=true)
 (hu:evL σ args.toList=some us) (hn:AV.noPtrs us=true) (hgv:AV.gives us=fs) (hcall:Ab P f fs (fun r=>r= .tup (.own 0 n sz e cs::rs))) (hn0:0<n) (hcs:Yh cs=true) (hrs:yD rs=true):Bp P C o σ ⟨(t,.tup (.pk κ 0 n sz::rs))::σ.tm,(κ,cs.map AV.d)::σ.bx,σ.tk⟩:=by
 rintro a w ⟨bm,gt,fp,hg⟩ K Q hK
 subst hgv
 have hA:=hcall.2 w fp bm.z (args.toList.map a.eval) hg.gdw (fun b o hf=>(hg.fpb b o hf).2) hg.zf (hg.evL hu hn)
 have hrun:(execOp a.eval o).run P w= .ok (.enter f (args.toList.map a.eval).toArray) w:=by
  simp only[execOp,ho,resolve,Deferred.ofValue,Act.eval,invoke,Sem.run_bind,Sem.run_pure,Result.andThen_ok,hcall.1]
  obtain⟨l⟩:=args
  simp
 unfold Oper.wp
 rw[hrun,Oper.upon_enter]
 refine hA.mono ?_
 rintro e w' ⟨r,v,rfl,rfl,hb,hr⟩
 simp only[]
 rw[hd]
 exact hK _ _ (hg.backX' ht hc hb hn0 hcs hrs hr)
theorem Hr {st e:TypeId} {x y:Operand} {k off n sz:Nat} {ki:IntKind} {j:Int} {d:TypeDesc} {z:Value} {by':Nat} (i:Nat) (ho:o.op= .indexAddr st x y) (hd:o.dst=some t) (ht:t<C.N) (hst:P.underlying st=some (.slice e)) (hT:TyOk P e d z sz by') (hx:σ.eval x=some (.pk k off n sz)) (hy:σ.eval y=some (.d (.v (.int ki j)))) (hj:j=(i:Int)) (hi:i<n):
 Bp P C o σ (σ.put t (.ptr k (off+i*sz))):=
 Ba hd ht fun a w bm gt fp hg=>by
  have h:=hg.eval hx
  have hyv:=(hg.eval hy).val
  subst hj
  generalize hv:a.eval x=v at h
  cases h with
  |@pk _ _ _ _ c h1 h2=>
   refine⟨.pointer (some ⟨bm k,off+i*sz,none⟩),?_,.ptr⟩
   simp only[execOp,ho,hv,hyv,Instr.indexAt,asIntOf]
   simp[go_sem,run_underlying hst,hi,hT.size,add_lit]
theorem dW {st e:TypeId} {x y:Operand} {k off n sz:Nat} {ki:IntKind} {j:Int} {d:TypeDesc} {z:Value} {by':Nat} (i:Nat) (ho:o.op= .indexAddr st x y) (hd:o.dst=some t) (ht:t<C.N) (hst:P.underlying st=some (.slice e)) (hT:TyOk P e d z sz by') (hx:σ.eval x=some (.pk k off n sz)) (hy:σ.eval y=some (.d (.v (.int ki j)))) (hj:j=(i:Int)) (hi:i<n):
 LA P C o ⟨[],some (t,.ptr k (off+i*sz)),none,none,[],[],[],[]⟩ σ:=fun _ hT' _ _=>
 Hr i ho hd ht hst hT (tr hT' (by rw[ho];simp[Op.operands]) hx) (tr hT' (by rw[ho];simp[Op.operands]) hy) hj hi
theorem Ht {st e:TypeId} {x:Operand} {k off n sz:Nat} (ho:o.op= .call {callee:= .builtin .len,args:=#[x],argTypes:=#[st]}) (hd:o.dst=some t) (ht:t<C.N) (hst:P.underlying st=some (.slice e)) (hx:σ.eval x=some (.pk k off n sz)):Bp P C o σ (σ.put t (.d (.v (.int .i64 n)))):=
 Ba hd ht fun a w bm gt fp hg=>by
  have h:=hg.eval hx
  generalize hv:a.eval x=v at h
  cases h with
  |@pk _ _ _ _ c h1 h2=>
   refine⟨_,?_,.d (.v _)⟩
   simp only[execOp,ho,resolve,invoke,builtin,Builtin.len_,Sem.run_bind,Sem.run_pure,Result.andThen_ok,List.map_toArray,List.map_cons,List.map_nil,hv]
   simp[go_sem,run_underlying hst,goInt]
mutual
def D.fresh:D→Bool
 | .v _=>true
 | .sl t _ _ cs=>t&&D.freshs cs
 | .cp t ds=>t&&D.freshs ds
 | .fn _ caps=>D.freshs caps
def D.freshs:List D→Bool
 |[]=>true
 |d::r=>d.fresh&&D.freshs r
end
theorem D.freshs_get:∀{l:List D} {i:Nat} {d:D},D.freshs l=true→l[i]?=some d→d.fresh=true
 |[],_,_,_,h=>by simp at h
 |c::r,0,d,hc,h=>by simp[D.freshs] at hc h;subst h;exact hc.1
 |c::r,i+1,d,hc,h=>by
  simp only[D.freshs,At] at hc
  exact D.freshs_get hc.2 (by simpa using h)
theorem Rd.fresh {B:Nat} {fp:Nat→Nat→Prop} {w:World} {d:D} {v:Value} (h:Rd B fp w d v) (hf:d.fresh=true):Rd B (fun b o=>fp b o∧B≤b) w d v:=by
 induction h with
 |v x=>exact .v x
 |sl us h1 h2 h3 h4 h5 h6 h7 h8 ih=>
  simp only[D.fresh,At] at hf
  refine .sl us h1 h2 h3 h4 h5 h6 (fun i d u hd hu=>ih i d u hd hu (D.freshs_get hf.2 hd)) fun i u hu=> ?_
  obtain⟨b,o,e1,e2,e3,e4⟩:=h8 i u hu
  exact⟨b,o,e1,⟨e2,e3 hf.1⟩,e3,e4⟩
 |cp us h4 h7 h8 ih=>
  simp only[D.fresh,At] at hf
  refine .cp us h4 (fun i d u hd hu=>ih i d u hd hu (D.freshs_get hf.2 hd)) fun i u hu=> ?_
  obtain⟨e2,e3,e4⟩:=h8 i u hu
  exact⟨⟨e2,e3 hf.1⟩,e3,e4⟩
 |fn us h4 h7 ih=>
  simp only[D.fresh] at hf
  exact .fn us h4 fun i d u hd hu=>ih i d u hd hu (D.freshs_get hf hd)
mutual
def AV.fresh:AV→Bool
 | .d x=>x.fresh
 | .agg cs=>AV.freshA cs
 | .tup cs=>AV.freshA cs
 |_=>false
def AV.freshA:List AV→Bool
 |[]=>true
 |c::r=>c.fresh&&AV.freshA r
end
theorem AV.freshA_get:∀{l:List AV} {i:Nat} {x:AV},AV.freshA l=true→l[i]?=some x→x.fresh=true
 |[],_,_,_,h=>by simp at h
 |c::r,0,x,hc,h=>by simp[AV.freshA] at hc h;subst h;exact hc.1
 |c::r,i+1,x,hc,h=>by
  simp only[AV.freshA,At] at hc
  exact AV.freshA_get hc.2 (by simpa using h)
theorem RA.fresh {B:Nat} {fp fp':Nat→Nat→Prop} {w:World} {bm bm':BM} {gt gt':Nat→Value} (hp:∀b o,fp b o→B≤b→fp' b o) {u:AV} {v:Value} (h:RA B fp w bm gt u v) (hf:u.fresh=true):RA B fp' w bm' gt' u v:=by
 induction h with
 |d h=>exact .d ((h.fresh hf).keep (Nat.le_refl _) (fun b o hb=>hp b o hb.1 hb.2) (fun _ _ _=>rfl))
 |agg vs h4 h7 ih=>
  simp only[AV.fresh] at hf
  exact .agg vs h4 fun i u v hu hv=>ih i u v hu hv (AV.freshA_get hf hu)
 |tup vs h4 h7 ih=>
  simp only[AV.fresh] at hf
  exact .tup vs h4 fun i u v hu hv=>ih i u v hu hv (AV.freshA_get hf hu)
 |ptr=>cases hf
 |own h=>cases hf
 |sem h1 h=>cases hf
 |cl us vs h3 h4 h6 h7 ih6 ih7=>cases hf
 |pk h1 h2=>cases hf
theorem Kt.lent {w w':World} {fp fp0 z:Nat→Nat→Prop} {r:AV} {v:Value} (h:Kt w fp0 z w' r v) (hz:∀b o,z b o→fp b o) (_:∀b o,fp b o→b<w.heap.size) (_:w.heap.size≤w'.heap.size) (hr:r.fresh=true):Kt w fp z w' r v:=by
 obtain⟨h1,fpc,gtc,zc,hfc,hra,htok,hzA,hzB,hzC⟩:=h
 refine⟨h1,fun b o=>fpc b o∧(fp b o∨w.heap.size≤b),gtc,zc,fun b o hb=>⟨hb.2,(hfc b o hb.1).2⟩,?_,fun n sz e ht=> ?_,hzA,fun b o hb=>⟨hzB b o hb,(hzC b o hb).imp (hz b o) id⟩,hzC⟩
 ·exact hra.fresh (fun b o hb hB=>⟨hb,.inr hB⟩) hr
 ·cases r with
  |tup l=>
   cases l with
   |nil=>cases ht
   |cons x l=>cases x<;>first|(cases ht;done)|(simp[AV.fresh,AV.freshA] at hr;done)
  |own=>cases hr
  |_=>cases ht
def AV.lend (k:Nat) (ds:List D):AV→AV
 | .pk j o n sz=>match Nat.beq j k with
   |true=> .d (.sl false n sz ((D.uns ds).drop o|>.take (n*sz)))
   |false=> .pk j o n sz
 |u=>u.give
def Uz (k:Nat) (ds:List D):AV→Bool
 | .pk j o n sz=>Nat.beq j k&&Nat.beq o 0&&Nat.ble (n*sz) ds.length
 |u=>u.noPtr
theorem GG.lends {bm:BM} {gt:Nat→Value} {fp:Nat→Nat→Prop} {a:Act} {w:World} (hg:GG C bm gt fp σ a w) {k:Nat} {cs:List AV} {ds:List D} (hk:lk k σ.bx=some cs) (hd:Ew cs=some ds) (h1:Mh cs=true):∀{l:List Operand} {us:List AV},Proofs.YtokmjjkbginodaaGreatDoor.evL σ l=some us→us.all (Uz k ds)=true→RAs w.heap.size (fun b o=>fp b o∨(b=bm k∧o<cs.length)) w ⟨fun _=>0,bm.z⟩ (fun _=>undef) (us.map (AV.lend k ds)) (l.map a.eval)
 |[],us,hl,_=>by cases hl;trivial
 |x::r,us,hl,hn=>by
  unfold Proofs.YtokmjjkbginodaaGreatDoor.evL at hl
  split at hl
  ·rename_i u us' h2 h3
   cases hl
   rw[List.all_cons,At] at hn
   refine⟨?_,GG.lends hg hk hd h1 h3 hn.2⟩
   have hx:=hg.eval h2
   have hB:=hg.bx k cs hk
   obtain⟨cur,e,q1,q2,q3⟩:=hB.obj
   have wide:∀{u v},RA C.W.heap.size fp w bm gt u v→u.noPtr=true→RA w.heap.size (fun b o=>fp b o∨(b=bm k∧o<cs.length)) w ⟨fun _=>0,bm.z⟩ (fun _=>undef) u.give v:=fun hr hn=>
    RA.keep (fp':=fun b o=>fp b o∨(b=bm k∧o<cs.length)) (bm:=⟨fun _=>0,bm.z⟩) (fun b o hb=>hg.zf b o hb) (NC.refl w) (Nat.le_refl w.heap.size) (fun _ _ h=>Or.inl h) (fun _ _ _=>rfl) (RA.give (B:=C.W.heap.size) (B':=w.heap.size) (bm:=bm) (bm':=⟨fun _=>0,bm.z⟩) (gt:=gt) (gt':=fun _=>undef) (fun _ _ x=>x) hr hn)
   cases u with
   |pk j o n sz=>
    have hn1:=hn.1
    simp only[Uz,At] at hn1
    obtain⟨⟨e1,e2⟩,e3⟩:=hn1
    obtain rfl:=Nat.eq_of_beq_eq_true e1
    obtain rfl:=Nat.eq_of_beq_eq_true e2
    have e3:=Nat.le_of_ble_eq_true e3
    simp only[AV.lend,Nat.beq_refl,List.drop_zero]
    generalize hv:a.eval x=v at hx
    cases hx with
    |@pk _ _ _ _ c p1 p2=>
     obtain⟨d1,d2⟩:=Ku (B:=C.W.heap.size) (fp:=fp) (w:=w) (bm:=bm) (gt:=gt) hd
     have hul:(D.uns ds).length=ds.length:=by rw[D.uns_eq,List.length_map]
     have hlen:((D.uns ds).take (n*sz)).length=n*sz:=by rw[Al,hul];omega
     have q0:cur.toList.length=cur.size:=Array.length_toList
     refine .d (.sl (cur.toList.take (n*sz)) p1 p2 hlen ?_ (fun e=>by cases e) (fun u hu=> ?_) (fun i d u hd' hu=> ?_) (fun i u hu=> ?_))
     ·rw[hlen,Al,q0];omega
     ·obtain⟨i,hi,rfl⟩:=List.getElem_of_mem hu
      have hi':i<cs.length:=by rw[Al] at hi;omega
      have hx:=Am hi'
      refine(q3 i _ _ hx ?_).oneCell (Mi h1 hx)
      simp
     ·have hi:i<n*sz:=by have:=(Aw.1 hd').1;omega
      rw[List.getElem?_take_of_lt hi] at hd' hu
      have hlt:i<cs.length:=by omega
      have hx:=Am hlt
      rw[D.uns_eq,List.getElem?_map,Option.map_eq_some_iff] at hd'
      obtain⟨d0,hd0,rfl⟩:=hd'
      have:=d2 _ _ d0 u hx hd0 (q3 _ _ u hx (by simpa using hu))
      exact(this.keep (B':=C.W.heap.size) (Nat.le_refl _) (fun _ _ h=> .inl h) (fun _ _ _=>rfl)).un
     ·have hi:i<n*sz:=by have:=(Aw.1 hu).1;rw[Al] at this;omega
      rw[List.getElem?_take_of_lt hi] at hu
      exact⟨bm j,0,rfl,.inr ⟨rfl,by omega⟩,fun h=>(by cases h),by rw[cell_of_row w _ _ _ _ _ q1,Nat.zero_add];simpa using hu⟩
   |d x=>exact wide hx rfl
   |ptr j o=>have:=hn.1;cases this
   |own j n sz e cs=>exact wide hx rfl
   |agg us=>exact wide hx hn.1
   |tup us=>exact wide hx hn.1
   |sem φ=>exact wide hx rfl
   |cl f fs cs=>exact wide hx hn.1
  ·cases hl
theorem U0 {f:FuncId} {args:Array Operand} {ats:Array TypeId} {us fs:List AV} {r:AV} {k:Nat} {cs:List AV} {ds:List D} (ho:o.op= .call {callee:= .value (.func f),args:=args,argTypes:=ats}) (hd:o.dst=some t) (ht:t<C.N) {κ:Nat} (hc:σ.clean κ=true)
 (hk:lk k σ.bx=some cs) (hds:Ew cs=some ds) (h1:Mh cs=true) (hu:evL σ args.toList=some us) (hn:us.all (Uz k ds)=true) (hgv:us.map (AV.lend k ds)=fs) (hcall:Ab P f fs (fun r'=>r'=r)) (hr:r.fresh=true):Bp P C o σ (σ.put t r):=by
 rintro a w ⟨bm,gt,fp,hg⟩ K Q hK
 subst hgv
 have hB:=hg.bx k cs hk
 have hA:=hcall.2 w (fun b o=>fp b o∨(b=bm k∧o<cs.length)) bm.z (args.toList.map a.eval) hg.gdw (fun b o hf=>hf.elim (fun hf=>(hg.fpb b o hf).2) (fun hf=>by rw[hf.1];exact hB.lt)) (fun b o hb=> .inl (hg.zf b o hb)) (hg.lends hk hds h1 hu hn)
 have hrun:(execOp a.eval o).run P w= .ok (.enter f (args.toList.map a.eval).toArray) w:=by
  simp only[execOp,ho,resolve,Deferred.ofValue,Act.eval,invoke,Sem.run_bind,Sem.run_pure,Result.andThen_ok,hcall.1]
  obtain⟨l⟩:=args
  simp
 unfold Oper.wp
 rw[hrun,Oper.upon_enter]
 refine hA.mono ?_
 rintro e w' ⟨r',v,rfl,rfl,hb,hr'⟩
 simp only[]
 rw[hd]
 have h2:=hg.back (t:=t) (κ:=κ) ht hc hb (hr'.lent hg.zf (fun b o hf=>(hg.fpb b o hf).2) hb.size hr)
 have e2:σ.res t κ r'=σ.put t r':=by
  rcases Sn κ r' hr'.1 with⟨_,k2,k3⟩|⟨_,_,_,_,rfl⟩|⟨_,_,_,_,_,rfl,_⟩
  ·unfold AS.res
   rw[k2,k3];rfl
  ·cases hr
  ·cases hr
 rw[e2] at h2
 exact hK _ _ h2
end
variable {P:Program} {C:Cx} {o:Oper} {σ:AS} {t:Nat}
theorem C9 {st e:TypeId} {x y:Operand} {k off m sz:Nat} {ki:IntKind} {j:Int} {d:TypeDesc} {z:Value} {by':Nat} (i:Nat) (ho:o.op= .indexAddr st x y) (hd:o.dst=some t) (ht:t<C.N) (hst:P.underlying st=some (.array m e)) (hT:TyOk P e d z sz by') (hx:σ.eval x=some (.ptr k off)) (hy:σ.eval y=some (.d (.v (.int ki j)))) (hj:j=(i:Int)) (hi:i<m):
 Bp P C o σ (σ.put t (.ptr k (off+i*sz))):=
 Ba hd ht fun a w bm gt fp hg=>by
  have h:=hg.eval hx
  have hyv:=(hg.eval hy).val
  subst hj
  generalize hv:a.eval x=v at h
  cases h with
  |ptr=>
   refine⟨.pointer (some ⟨bm k,off+i*sz,none⟩),?_,.ptr⟩
   simp only[execOp,ho,hv,hyv,Instr.indexAt,asIntOf]
   simp[go_sem,run_underlying hst,hi,hT.size,add_lit]
end Go.Proofs.YtokmjjkbginodaaGreatDoor
namespace Go.Proofs.YtokmjjkbginodaaGreatDoor
open Go.RowKit
abbrev fl (n:String) (t o b:Nat):Field:={name:=n,type:=t,offset:=o,embedded:=false,tag:= "",pkgPath:= "",byteOffset:=b}
abbrev zU:Value:=.int .u8 0
def tyL:List (Nat×TypeDesc×Value×Nat×Nat):=[(2,.int .i64,.int .i64 0,1,8),(3,.int .i64,.int .i64 0,1,8),(4,.bool,.bool false,1,1),(5,.int .u8,.int .u8 0,1,1),(9,.string,.string ⟨#[]⟩,1,16),(21,.int .i32,.int .i32 0,1,4),(22,.slice 5,.slice none 0 0,1,24),(24,.slice 55,.slice none 0 0,1,24),(25,.slice 125,.slice none 0 0,1,24),(26,.slice 125,.slice none 0 0,1,24),(28,.struct #[fl "Full" 24 0 0,fl "Relative" 26 1 24,fl "Reasons" 3 2 48,fl "Issuer" 24 3 56],.agg #[.slice none 0 0,.slice none 0 0,.int .i64 0,.slice none 0 0],4,80),(29,.int .i64,.int .i64 0,1,8),(31,.struct #[fl "Code" 29 0 0,fl "Offset" 3 1 8],.agg #[.int .i64 0,.int .i64 0],2,16),(41,.slice 28,.slice none 0 0,1,24),(51,.slice 26,.slice none 0 0,1,24),(53,.struct #[fl "Kind" 3 0 0,fl "Value" 9 1 8],.agg #[.int .i64 0,.string ⟨#[]⟩],2,24),(55,.struct #[fl "Kind" 3 0 0,fl "OID" 9 1 8,fl "Text" 9 2 24,fl "Bytes" 22 3 40,fl "Name" 51 4 64,fl "Assigner" 53 5 88,fl "Party" 53 7 112],.agg #[.int .i64 0,.string ⟨#[]⟩,.string ⟨#[]⟩,.slice none 0 0,.slice none 0 0,.int .i64 0,.string ⟨#[]⟩,.int .i64 0,.string ⟨#[]⟩],9,136),(58,.struct #[fl "Full" 24 0 0,fl "Relative" 26 1 24,fl "OnlyUser" 4 2 48,fl "OnlyCA" 4 3 49,fl "Indirect" 4 4 50,fl "OnlyAttribute" 4 5 51,fl "Reasons" 3 6 56],.agg #[.slice none 0 0,.slice none 0 0,.bool false,.bool false,.bool false,.bool false,.int .i64 0],7,64),(60,.struct #[{name:= "full",type:=24,offset:=0,embedded:=false,tag:= "",pkgPath:= "cretula/point",byteOffset:=0},{name:= "relative",type:=26,offset:=1,embedded:=false,tag:= "",pkgPath:= "cretula/point",byteOffset:=24}],.agg #[.slice none 0 0,.slice none 0 0],2,48),(61,.array 6 4,.agg #[.bool false,.bool false,.bool false,.bool false,.bool false,.bool false],6,6),(63,.struct #[{name:= "place",type:=60,offset:=0,embedded:=true,tag:= "",pkgPath:= "cretula/point",byteOffset:=0},{name:= "reasons",type:=3,offset:=2,embedded:=false,tag:= "",pkgPath:= "cretula/point",byteOffset:=48},{name:= "issuer",type:=24,offset:=3,embedded:=false,tag:= "",pkgPath:= "cretula/point",byteOffset:=56},{name:= "flags",type:=61,offset:=4,embedded:=false,tag:= "",pkgPath:= "cretula/point",byteOffset:=80}],.agg #[.slice none 0 0,.slice none 0 0,.int .i64 0,.slice none 0 0,.bool false,.bool false,.bool false,.bool false,.bool false,.bool false],10,88),(65,.string,.string ⟨#[]⟩,1,16),(68,.slice 22,.slice none 0 0,1,24),(70,.struct #[{name:= "parts",type:=68,offset:=0,embedded:=false,tag:= "",pkgPath:= "cretula/point",byteOffset:=0},{name:= "code",type:=29,offset:=1,embedded:=false,tag:= "",pkgPath:= "cretula/point",byteOffset:=24}],.agg #[.slice none 0 0,.int .i64 0],2,32),(77,.slice 79,.slice none 0 0,1,24),(79,.struct #[fl "Class" 3 0 0,fl "Number" 3 1 8,fl "Constructed" 4 2 16,fl "Content" 22 3 24,fl "Kids" 77 4 48],.agg #[.int .i64 0,.int .i64 0,.bool false,.slice none 0 0,.slice none 0 0],5,72),(85,.slice 89,.slice none 0 0,1,24),(89,.struct #[fl "Class" 3 0 0,fl "Number" 3 1 8,fl "Constructed" 4 2 16,fl "Start" 3 3 24,fl "Body" 3 4 32,fl "End" 3 5 40],.agg #[.int .i64 0,.int .i64 0,.bool false,.int .i64 0,.int .i64 0,.int .i64 0],6,48),(125,.struct #[fl "OID" 9 0 0,fl "Value" 22 1 16],.agg #[.string ⟨#[]⟩,.slice none 0 0],2,40),(137,.int .u64,.int .u64 0,1,8),(140,.struct #[{name:= "number",type:=3,offset:=0,embedded:=false,tag:= "",pkgPath:= "cretula/dn",byteOffset:=0},{name:= "sorted",type:=4,offset:=1,embedded:=false,tag:= "",pkgPath:= "cretula/dn",byteOffset:=8}],.agg #[.int .i64 0,.bool false],2,16),(143,.slice 3,.slice none 0 0,1,24),(164,.struct #[fl "Bytes" 22 0 0,fl "Unused" 3 1 24],.agg #[.slice none 0 0,.int .i64 0],2,32),(172,.struct #[fl "Class" 3 0 0,fl "Number" 3 1 8,fl "Constructed" 4 2 16,fl "Length" 3 3 24,fl "Size" 3 4 32],.agg #[.int .i64 0,.int .i64 0,.bool false,.int .i64 0,.int .i64 0],5,40),(178,.slice 53,.slice none 0 0,1,24),(181,.map 3 179,.map none,1,8),(185,.struct #[{name:= "kind",type:=3,offset:=0,embedded:=false,tag:= "",pkgPath:= "cretula/general",byteOffset:=0},{name:= "content",type:=22,offset:=1,embedded:=false,tag:= "",pkgPath:= "cretula/general",byteOffset:=8}],.agg #[.int .i64 0,.slice none 0 0],2,32),(187,.int .u64,.int .u64 0,1,8),(209,.slice 212,.slice none 0 0,1,24),(212,.int .u32,.int .u32 0,1,4),(220,.func #[21] #[4] false,.nilFunc,1,8),(222,.struct #[{name:= "has",type:=220,offset:=0,embedded:=false,tag:= "",pkgPath:= "cretula/charset",byteOffset:=0},{name:= "width",type:=3,offset:=1,embedded:=false,tag:= "",pkgPath:= "cretula/charset",byteOffset:=8}],.agg #[.nilFunc,.int .i64 0],2,16),(223,.map 3 222,.map none,1,8),(233,.slice 187,.slice none 0 0,1,24),(235,.slice 237,.slice none 0 0,1,24),(237,.struct #[{name:= "at",type:=3,offset:=0,embedded:=false,tag:= "",pkgPath:= "cretula/tree",byteOffset:=0},{name:= "end",type:=3,offset:=1,embedded:=false,tag:= "",pkgPath:= "cretula/tree",byteOffset:=8},{name:= "node",type:=79,offset:=2,embedded:=false,tag:= "",pkgPath:= "cretula/tree",byteOffset:=16},{name:= "kids",type:=235,offset:=7,embedded:=false,tag:= "",pkgPath:= "cretula/tree",byteOffset:=88}],.agg #[.int .i64 0,.int .i64 0,.int .i64 0,.int .i64 0,.bool false,.slice none 0 0,.slice none 0 0,.slice none 0 0],8,112),(242,.slice 9,.slice none 0 0,1,24),(270,.array 256 5,.agg #[zU,zU,zU,zU,zU,zU,zU,zU,zU,zU,zU,zU,zU,zU,zU,zU,zU,zU,zU,zU,zU,zU,zU,zU,zU,zU,zU,zU,zU,zU,zU,zU,zU,zU,zU,zU,zU,zU,zU,zU,zU,zU,zU,zU,zU,zU,zU,zU,zU,zU,zU,zU,zU,zU,zU,zU,zU,zU,zU,zU,zU,zU,zU,zU,zU,zU,zU,zU,zU,zU,zU,zU,zU,zU,zU,zU,zU,zU,zU,zU,zU,zU,zU,zU,zU,zU,zU,zU,zU,zU,zU,zU,zU,zU,zU,zU,zU,zU,zU,zU,zU,zU,zU,zU,zU,zU,zU,zU,zU,zU,zU,zU,zU,zU,zU,zU,zU,zU,zU,zU,zU,zU,zU,zU,zU,zU,zU,zU,zU,zU,zU,zU,zU,zU,zU,zU,zU,zU,zU,zU,zU,zU,zU,zU,zU,zU,zU,zU,zU,zU,zU,zU,zU,zU,zU,zU,zU,zU,zU,zU,zU,zU,zU,zU,zU,zU,zU,zU,zU,zU,zU,zU,zU,zU,zU,zU,zU,zU,zU,zU,zU,zU,zU,zU,zU,zU,zU,zU,zU,zU,zU,zU,zU,zU,zU,zU,zU,zU,zU,zU,zU,zU,zU,zU,zU,zU,zU,zU,zU,zU,zU,zU,zU,zU,zU,zU,zU,zU,zU,zU,zU,zU,zU,zU,zU,zU,zU,zU,zU,zU,zU,zU,zU,zU,zU,zU,zU,zU,zU,zU,zU,zU,zU,zU,zU,zU,zU,zU,zU,zU,zU,zU,zU,zU,zU,.int .u8 0],256,256),(272,.struct #[{name:= "lo",type:=5,offset:=0,embedded:=false,tag:= "",pkgPath:= "unicode/utf8",byteOffset:=0},{name:= "hi",type:=5,offset:=1,embedded:=false,tag:= "",pkgPath:= "unicode/utf8",byteOffset:=1}],.agg #[.int .u8 0,.int .u8 0],2,2),(273,.array 16 272,.agg #[zU,zU,zU,zU,zU,zU,zU,zU,zU,zU,zU,zU,zU,zU,zU,zU,zU,zU,zU,zU,zU,zU,zU,zU,zU,zU,zU,zU,zU,zU,zU,.int .u8 0],32,32),(275,.pointer 277,.pointer none,1,8),(277,.struct #[{name:= "addr",type:=275,offset:=0,embedded:=false,tag:= "",pkgPath:= "strings",byteOffset:=0},{name:= "buf",type:=22,offset:=1,embedded:=false,tag:= "",pkgPath:= "strings",byteOffset:=8}],.agg #[.pointer none,.slice none 0 0],2,32),(297,.array 24 5,.agg #[zU,zU,zU,zU,zU,zU,zU,zU,zU,zU,zU,zU,zU,zU,zU,zU,zU,zU,zU,zU,zU,zU,zU,.int .u8 0],24,24),(310,.struct #[fl "Func" 9 0 0,fl "Num" 9 1 16,fl "Err" 245 2 32],.agg #[.string ⟨#[]⟩,.string ⟨#[]⟩,.nilIface],3,48),(313,.array 20 187,.agg #[.int .u64 0,.int .u64 0,.int .u64 0,.int .u64 0,.int .u64 0,.int .u64 0,.int .u64 0,.int .u64 0,.int .u64 0,.int .u64 0,.int .u64 0,.int .u64 0,.int .u64 0,.int .u64 0,.int .u64 0,.int .u64 0,.int .u64 0,.int .u64 0,.int .u64 0,.int .u64 0],20,160),(314,.array 65 5,.agg #[zU,zU,zU,zU,zU,zU,zU,zU,zU,zU,zU,zU,zU,zU,zU,zU,zU,zU,zU,zU,zU,zU,zU,zU,zU,zU,zU,zU,zU,zU,zU,zU,zU,zU,zU,zU,zU,zU,zU,zU,zU,zU,zU,zU,zU,zU,zU,zU,zU,zU,zU,zU,zU,zU,zU,zU,zU,zU,zU,zU,zU,zU,zU,zU,.int .u8 0],65,65)]
def All {α:Type} (Q:α→Prop):List α→Prop
 |[]=>True
 |x::r=>Q x∧All Q r
theorem aF {β:Type} {Q:Nat×β→Prop} {t:Nat} {x:β}:∀{l:List (Nat×β)},All Q l→lk t l=some x→Q (t,x)
 |[],_,h=>by cases h
 |(k,b)::r,ha,h=>by
  simp only[lk] at h
  cases hb:Nat.beq k t with
  |true=>rw[hb] at h;cases h;obtain rfl:=Nat.eq_of_beq_eq_true hb;exact ha.1
  |false=>rw[hb] at h;exact aF ha.2 h
theorem OX:All (fun e:Nat×TypeDesc×Value×Nat×Nat=>TyOk Tryz.prog e.1 e.2.1 e.2.2.1 e.2.2.2.1 e.2.2.2.2) tyL:=by
 repeat' first|exact trivial|refine And.intro ⟨by kernel_rfl,by kernel_rfl⟩ ?_
theorem yE {t:Nat} {d:TypeDesc} {z:Value} {sz b:Nat} (h:lk t tyL=some (d,z,sz,b)):TyOk Tryz.prog t d z sz b:=aF OX h
theorem tyU {t:Nat} {d:TypeDesc} {z:Value} {sz b:Nat} (h:lk t tyL=some (d,z,sz,b)):Tryz.prog.underlying t=some d:=(yE h).u
def fdL:List (Nat×List (Nat×Nat×Bool)):=[(28,[(0,1,false),(1,1,false),(2,1,false),(3,1,false)]),(31,[(0,1,false),(1,1,false)]),(53,[(0,1,false),(1,1,false)]),(55,[(0,1,false),(1,1,false),(2,1,false),(3,1,false),(4,1,false),(5,2,true),(7,2,true)]),(58,[(0,1,false),(1,1,false),(2,1,false),(3,1,false),(4,1,false),(5,1,false),(6,1,false)]),(60,[(0,1,false),(1,1,false)]),(63,[(0,2,true),(2,1,false),(3,1,false),(4,6,true)]),(70,[(0,1,false),(1,1,false)]),(79,[(0,1,false),(1,1,false),(2,1,false),(3,1,false),(4,1,false)]),(89,[(0,1,false),(1,1,false),(2,1,false),(3,1,false),(4,1,false),(5,1,false)]),(125,[(0,1,false),(1,1,false)]),(140,[(0,1,false),(1,1,false)]),(164,[(0,1,false),(1,1,false)]),(172,[(0,1,false),(1,1,false),(2,1,false),(3,1,false),(4,1,false)]),(185,[(0,1,false),(1,1,false)]),(222,[(0,1,false),(1,1,false)]),(237,[(0,1,false),(1,1,false),(2,5,true),(7,1,false)]),(272,[(0,1,false),(1,1,false)]),(277,[(0,1,false),(1,1,false)])]
def LI (t:Nat):Nat→List (Nat×Nat×Bool)→Prop
 |_,[]=>True
 |i,x::r=>FldOk Tryz.prog t i x.1 x.2.1 x.2.2∧LI t (i+1) r
theorem dX {t:Nat} {x:Nat×Nat×Bool}:∀{l:List (Nat×Nat×Bool)} {k i:Nat},LI t k l→l[i]?=some x→FldOk Tryz.prog t (k+i) x.1 x.2.1 x.2.2
 |[],_,_,_,h=>by simp at h
 |y::r,k,0,ha,h=>by simp at h;subst h;exact ha.1
 |y::r,k,i+1,ha,h=>by
  have:=dX (i:=i) ha.2 (by simpa using h)
  rw[show k+(i+1)=k+1+i by omega];exact this
def fdG (t i:Nat):Option (Nat×Nat×Bool):=match lk t fdL with
 |some l=>l[i]?
 |none=>none
theorem OY:All (fun e:Nat×List (Nat×Nat×Bool)=>LI e.1 0 e.2) fdL:=by
 repeat' first|exact trivial|refine And.intro ⟨⟨_,_,_,_,_,tyU rfl,rfl,rfl,yE rfl,rfl⟩⟩ ?_|refine And.intro ?_ ?_
theorem OZ {t i off sz:Nat} {ag:Bool} (h:fdG t i=some (off,sz,ag)):FldOk Tryz.prog t i off sz ag:=by
 unfold fdG at h
 split at h
 ·rename_i l hl
  have:=dX (k:=0) (aF OY hl) h
  rw[Nat.zero_add] at this
  exact this
 ·cases h
def stL:List (Nat×List (Nat×Nat)):=[(28,[(0,1),(1,1),(2,1),(3,1)]),(31,[(0,1),(1,1)]),(53,[(0,1),(1,1)]),(55,[(0,1),(1,1),(2,1),(3,1),(4,1),(5,2),(7,2)]),(58,[(0,1),(1,1),(2,1),(3,1),(4,1),(5,1),(6,1)]),(60,[(0,1),(1,1)]),(63,[(0,2),(2,1),(3,1),(4,6)]),(70,[(0,1),(1,1)]),(79,[(0,1),(1,1),(2,1),(3,1),(4,1)]),(89,[(0,1),(1,1),(2,1),(3,1),(4,1),(5,1)]),(125,[(0,1),(1,1)]),(140,[(0,1),(1,1)]),(164,[(0,1),(1,1)]),(172,[(0,1),(1,1),(2,1),(3,1),(4,1)]),(185,[(0,1),(1,1)]),(222,[(0,1),(1,1)]),(237,[(0,1),(1,1),(2,5),(7,1)]),(272,[(0,1),(1,1)]),(277,[(0,1),(1,1)])]
theorem PA:All (fun e:Nat×List (Nat×Nat)=>StrOk Tryz.prog e.1 e.2) stL:=by
 repeat' first|exact trivial|refine And.intro ⟨⟨_,tyU rfl,fun w=>by kernel_rfl⟩⟩ ?_
theorem PB {t:Nat} {pl:List (Nat×Nat)} (h:lk t stL=some pl):StrOk Tryz.prog t pl:=aF PA h
theorem mixed:Tryz.prog.follows .mixedOrders=true:=by kernel_rfl
def muL:List Nat:=[145,144,69,39]
def tab:Tab:=⟨tyL,fdL,stL,muL,0⟩
theorem C2:TabOk Tryz.prog tab where
 ty:=fun h=>yE h
 fd:=fun h1 h2=>OZ (by unfold fdG;rw[show lk _ fdL=_ from h1];exact h2)
 st:=fun h=>PB h
theorem acQ {f:FuncId} {fn:Func} {c:Code} {args:List AV} {Φ:AV→Prop} {rs:Array ResultVar} (N:Nat) (hf:Tryz.prog.funcs[f]?=some fn) (hb:fn.body=some c) (hr:fn.results=rs) (h:∀W fp0 z0,I7 Tryz.prog ⟨W,fp0,N,fun _=>none,z0⟩ tab c (kL tab rs Φ) (fun _ _ _ _=>False) (kL tab rs Φ) (G3 0 args) [] []) (hN:fn.ntmps=N:=by rfl) (hn0:(fn.name== "runtime.NumGoroutine")=false:=by kernel_rfl) (hn:Nat.ble rs.size 4=true:=by rfl) (hA:(Nat.ble args.length N&&Nat.ble N 1000000)=true:=by rfl):Ab Tryz.prog f args Φ:=Ns N rs C2 mixed hf hN hn0 hb hr hn hA h
def St {β:Type} (k:Nat):List (Nat×β)→List (Nat×β)
 |[]=>[]
 |(j,b)::r=>match Nat.beq j k with
  |true=>St k r
  |false=>(j,b)::St k r
theorem U1 {β:Type} {k t:Nat} {x:β}:∀{l:List (Nat×β)},lk t (St k l)=some x→lk t l=some x
 |[],h=>by cases h
 |(j,b)::r,h=>by
  unfold St at h
  cases hj:Nat.beq j k with
  |true=>
   rw[hj] at h
   simp only[lk]
   cases ht:Nat.beq j t with
   |true=>
    exfalso
    obtain rfl:=Nat.eq_of_beq_eq_true hj
    obtain rfl:=Nat.eq_of_beq_eq_true ht
    have:∀l:List (Nat×β),lk j (St j l)=none:=by
     intro l
     induction l with
     |nil=>rfl
     |cons p r ih=>
      obtain⟨q,c⟩:=p
      unfold St
      cases hq:Nat.beq q j with
      |true=>exact ih
      |false=>simp only[lk,hq];exact ih
    rw[this] at h;cases h
   |false=>exact U1 h
  |false=>
   rw[hj] at h
   simp only[lk] at h⊢
   cases ht:Nat.beq j t with
   |true=>rw[ht] at h;exact h
   |false=>rw[ht] at h;exact U1 h
def FQ (ms:List Nat):Tab:=⟨St 5 tyL,fdL,stL,ms++muL,0⟩
theorem LJ (ms:List Nat):TabOk Tryz.prog (FQ ms) where
 ty:=fun{t d z sz b} h=>yE (U1 (k:=5) (show lk t (St 5 tyL)=_ from h))
 fd:=fun h1 h2=>OZ (by unfold fdG;rw[show lk _ fdL=_ from h1];exact h2)
 st:=fun h=>PB h
theorem tyB:TyOk Tryz.prog 5 (.int .u8) (.int .u8 0) 1 1:=C2.ty rfl
theorem Gj (l:List UInt8):Mh ((Ak l).map AV.d)=true:=by
 induction l with
 |nil=>rfl
 |cons x r ih=>show(true&&Mh ((Ak r).map AV.d))=true;rw[ih];rfl
theorem Gk (l:List UInt8):Ew ((Ak l).map AV.d)=some (Ak l):=by
 induction l with
 |nil=>rfl
 |cons x r ih=>
  show Ew (.d (.v (.int .u8 x.toNat))::(Ak r).map AV.d)=_
  unfold Ew;rw[ih];rfl
theorem kS {α:Type} {l:List α} {i:Nat} (x:α) (h:i<l.length):Fr l i [x]=l.set i x:=by
 unfold Fr
 rw[List.set_eq_take_append_cons_drop,if_pos h]
 simp
theorem sU (l:List UInt8) (i:Nat) (x:UInt8):((Ak l).map AV.d).set i (cv x.toNat)=(Ak (l.set i x)).map AV.d:=by
 unfold Ak
 rw[List.map_set,List.map_set]
section
variable {C:Cx} {o:Oper} {σ:AS} {t:Nat}
theorem O7 {x:Operand} {k i:Nat} {l:List UInt8} {b:UInt8} (ho:o.op= .load 5 x) (hd:o.dst=some t) (ht:t<C.N) (hx:σ.eval x=some (.ptr k (0+i*1))) (hk:lk k σ.bx=some ((Ak l).map AV.d)) (hu:l[i]?=some b):Bp Tryz.prog C o σ (σ.put t (cv b.toNat)):=
 X8 ho hd ht hx hk tyB rfl (by rw[Nat.zero_add,Nat.mul_one,List.getElem?_map,Gi,hu];rfl)
theorem Fu {x y:Operand} {k i:Nat} {l:List UInt8} {b:UInt8} (ho:o.op= .store 5 x y) (hd:o.dst=none) (hx:σ.eval x=some (.ptr k (0+i*1))) (hk:lk k σ.bx=some ((Ak l).map AV.d)) (hy:σ.eval y=some (cv b.toNat)) (hi:i<l.length):
 Bp Tryz.prog C o σ ⟨σ.tm,(k,(Ak (l.set i b)).map AV.d)::σ.bx,σ.tk⟩:=by
 have h:=Uo (P:=Tryz.prog) (C:=C) (σ:=σ) ho hd hx hk hy tyB rfl rfl (by rw[List.length_map,B7];omega)
 rwa[show(cv b.toNat).cells=[cv b.toNat] from rfl,Nat.zero_add,Nat.mul_one,kS _ (by rw[List.length_map,B7];omega),sU] at h
end
theorem dY {σ:AS} {k n sz:Nat} {cs:List AV} {ds:List D} (ss:List Nat) (hk:lk k σ.bx=some cs) (hd:Ew cs=some ds) (hs:∀s∈ss,lk s σ.tm=some (.pk k 0 n sz)) (hn:n*sz≤ds.length) (h1:Mh cs=true):Ent σ ⟨ss.map (fun s=>(s,.d (.sl false n sz (ds.take (n*sz)))))++frT k ds σ.tm,frB k ds σ.bx,σ.tk⟩:=by
 rintro C a w ⟨bm,gt,fp,hg0⟩
 obtain⟨fp',hg,hR⟩:=hg0.frz hk hd
 refine⟨bm,gt,fp',{hg with tm:=fun t u hu=> ?_}⟩
 have key:∀l:List Nat,(∀s∈l,s∈ss)→lk t (l.map (fun s=>(s,AV.d (.sl false n sz (ds.take (n*sz)))))++frT k ds σ.tm)=some u→∃v,C.val a t=some v∧RA C.W.heap.size fp' w bm gt u v:=by
  intro l
  induction l with
  |nil=>intro _ hu;exact hg.tm t u hu
  |cons s r ih=>
   intro hm hu
   rw[List.map_cons,List.cons_append] at hu
   by_cases e1:s=t
   ·subst e1
    rw[Bs] at hu;cases hu
    obtain⟨v,k1,k2⟩:=hg0.tm s _ (hs s (hm s (by simp)))
    refine⟨v,k1,?_⟩
    cases k2 with
    |pk q1 q2=>exact .d (hR n sz _ h1 hn q1 q2)
   ·rw[Cf _ _ e1] at hu
    exact ih (fun x hx=>hm x (by simp[hx])) hu
 exact key ss (fun _ h=>h) hu
theorem sV {P:Program} {C:Cx} {o:Oper} {tm:TM} {bx:BX} {tk:TK} {K:KS} {σ:AS} (he:Ent ⟨tm,bx,tk⟩ σ) (h:NStep P C o σ.tm σ.bx σ.tk K):NStep P C o tm bx tk K:=by
 obtain⟨S,h1,h2⟩:=h.h
 exact⟨S,fun a w hG=>h1 a w (he C a w hG),h2⟩
theorem sW {C:Cx} {o:Oper} {tm:TM} {bx:BX} {tk:TK} {K:KS} (ss:List Nat) (k:Nat) {l:List UInt8} (hk:lk k bx=Option.some ((Ak l).map AV.d)) (hs:∀s∈ss,lk s tm=Option.some (.pk k 0 l.length 1)) (h:NStep Tryz.prog C o (ss.map (fun s=>(s,.d (Af false l)))++frT k (Ak l) tm) (frB k (Ak l) bx) tk K):NStep Tryz.prog C o tm bx tk K:=by
 refine sV (dY (σ:=⟨tm,bx,tk⟩) ss hk (Gk l) hs (by rw[B7,Nat.mul_one];exact Nat.le_refl _) (Gj l)) ?_
 rw[Nat.mul_one,List.take_of_length_le (by rw[B7];exact Nat.le_refl _)]
 exact h
theorem kU {C:Cx} {o:Oper} {tm:TM} {bx:BX} {tk:TK} {K:KS} (s1 s2 k n:Nat) {l:List UInt8} (hn:n=l.length) (hk:lk k bx=Option.some ((Ak l).map AV.d)) (h1:lk s1 tm=Option.some (.pk k 0 n 1)) (h2:lk s2 tm=Option.some (.pk k 0 n 1)) (h:aA k (Ak l) tm (fun tm'=>Dm (frB k (Ak l) bx) (fun bx'=>NStep Tryz.prog C o ((s1,.d (Af false l))::(s2,.d (Af false l))::tm') bx' tk K))):NStep Tryz.prog C o tm bx tk K:=by
 subst hn
 exact sW [s1,s2] k hk (fun s hs=>by
  rcases List.mem_cons.1 hs with rfl|hs
  ·exact h1
  ·rw[List.mem_singleton.1 hs];exact h2) (Cc (G5 h))
theorem NStep.call {P:Program} {C:Cx} {o:Oper} {tm:TM} {bx:BX} {tk:TK} {K:KS} {t:Nat} {f:FuncId} {args:Array Operand} {ats:Array TypeId} {us fs:List AV} {r:AV} (hcall:Ab P f fs (fun r'=>r'=r)) (ho:o.op= .call {callee:= .value (.func f),args:=args,argTypes:=ats}) (hd:o.dst=Option.some t) (ht:t<C.N) (κ:Nat) (hc:AS.clean κ ⟨tm,bx,tk⟩=true)
 (hu:evL ⟨tm,bx,tk⟩ args.toList=Option.some us) (hn:AV.noPtrs us=true) (hgv:AV.gives us=fs) (k:K (AS.res ⟨tm,bx,tk⟩ t κ r).tm (AS.res ⟨tm,bx,tk⟩ t κ r).bx (AS.res ⟨tm,bx,tk⟩ t κ r).tk):NStep P C o tm bx tk K:=
 Uy (Ya ho hd ht hc hu hn hgv hcall) fun σ' ⟨r',hr,h⟩=>by subst hr h;exact k
theorem Su {P:Program} {C:Cx} {o:Oper} {tm:TM} {bx:BX} {tk:TK} {K:KS} {t:Nat} {f:FuncId} {args:Array Operand} {ats:Array TypeId} {us fs:List AV} {l:List UInt8} {e:TypeId} {rs:List AV} (hcall:Ab P f fs (fun r'=>r'= .tup (Bb 0 e l::rs))) (hl:0<l.length) (hrs:yD rs=true) (ho:o.op= .call {callee:= .value (.func f),args:=args,argTypes:=ats}) (hd:o.dst=Option.some t) (ht:t<C.N) (κ:Nat) (hc:AS.clean κ ⟨tm,bx,tk⟩=true)
 (hu:evL ⟨tm,bx,tk⟩ args.toList=Option.some us) (hn:AV.noPtrs us=true) (hgv:AV.gives us=fs) (k:K ((t,.tup (.pk κ 0 l.length 1::rs))::tm) ((κ,(Ak l).map AV.d)::bx) tk):NStep P C o tm bx tk K:=
 Aj (kR ho hd ht hc hu hn hgv hcall hl (Mr l) hrs) k
theorem acX {f:FuncId} {fn:Func} {c:Code} {args:List AV} {Φ:AV→Prop} {rs:Array ResultVar} (N:Nat) (ms:List Nat) (hf:Tryz.prog.funcs[f]?=some fn) (hb:fn.body=some c) (hr:fn.results=rs) (h:∀W fp0 z0,I7 Tryz.prog ⟨W,fp0,N,fun _=>none,z0⟩ (FQ ms) c (kL (FQ ms) rs Φ) (fun _ _ _ _=>False) (kL (FQ ms) rs Φ) (G3 0 args) [] []) (hN:fn.ntmps=N:=by rfl) (hn0:(fn.name== "runtime.NumGoroutine")=false:=by kernel_rfl) (hn:Nat.ble rs.size 4=true:=by rfl) (hA:(Nat.ble args.length N&&Nat.ble N 1000000)=true:=by rfl):Ab Tryz.prog f args Φ:=Ns N rs (LJ ms) mixed hf hN hn0 hb hr hn hA h
theorem clQ {p:Prop} (h:p:=by((repeat'(first|exact rfl|exact Gs _ _|refine Bool.and_eq_true_iff.2 ⟨?_,?_⟩));first|done|fail)):p:=h
end Go.Proofs.YtokmjjkbginodaaGreatDoor
