/- MC: the texts Inl Vc Vcs Vco Vcn Pk LoopN Arr Types Tab PkW, one behind the other. No condition but what each lemma says. -/
import Derived.Test.YtbedjionhmaafaaGreatDoorMB
set_option linter.all false
set_option maxRecDepth 100000
set_option maxHeartbeats 16000000
namespace Go.Proofs.YtbedjionhmaafaaGreatDoor
open Go.RowKit
variable {C:Cx} {a:Act} {t N m i n d sz off:Nat} {bm:BM} {gt:Nat→Value} {fp:Nat→Nat→Prop} {σ:AS} {w:World} {us fs:List AV} {f:FuncId} {fn:Func} {c:Code} {args:Array Operand} {ats:Array TypeId} {cs ds:List D} {x y:Operand} {u r X:AV} {dst:Option Nat} {op:BinOp} {Φ:AV→Prop} {A:Int→Prop} {B p R:Prop} {b:Bool} {α:Type} {l:List UInt8} {j lo hi mx:Int} {P:Program}
def ghM (M:Nat):List (Nat×AV)→List (Nat×AV)
 |[]=>[]
 |(t,u)::r=>(t+M,u)::ghM M r
def Uj (M:Nat):List (Nat×AV)→List (Nat×AV)
 |[]=>[]
 |(t,u)::r=>match Nat.ble M t with
  |true=>(t-M,u)::Uj M r
  |false=>Uj M r
def inM (M:Nat) (us:List AV) (tm:List (Nat×AV)):List (Nat×AV):=J4 0 us++ghM M tm
def inT (us:List AV) (tm:List (Nat×AV)):List (Nat×AV):=inM 1000000 us tm
def Uk (l:List (Nat×AV)):List (Nat×AV):=Uj 1000000 l
theorem tJ {M t:Nat} {u:AV}:∀{l:List (Nat×AV)},lk t (ghM M l)=some u→M≤t∧lk (t-M) l=some u
 |[],h=>by cases h
 |(s,c)::r,h=>by
  simp only[ghM,lk] at h
  cases q:Nat.beq (s+M) t with
  |true=>
   grind [Nat.eq_of_beq_eq_true,Nat.add_sub_cancel,F1]
  |false=>
   rw[q] at h
   obtain⟨g,v⟩:=tJ (l:=r) h
   refine⟨g,?_⟩
   rw[Gm _ _ (fun e=> ?_)]
   all_goals simp_all
theorem aL {g:Type} {t:Nat} {u:g}:∀{l m:List (Nat×g)},lk t (l++m)=some u→lk t l=some u∨lk t m=some u
 |[],_,h=> .inr h
 |(s,c)::r,m,h=>by
  simp only[Ak,lk] at h
  cases e:Nat.beq s t with
  |true=>rw[e] at h;left;simp only[lk,e];exact h
  |false=>
   rw[e] at h
   rcases aL (l:=r) h with h|h
   ·left;simp only[lk,e];exact h
   ·exact .inr h
theorem aM {M t:Nat} {u:AV}:∀{l:List (Nat×AV)},lk t (Uj M l)=some u→lk (t+M) l=some u
 |[],h=>by cases h
 |(s,c)::r,h=>by
  simp only[Uj] at h
  cases g:Nat.ble M s with
  |true=>
   rw[g] at h
   have q:=Ay g
   by_cases e:s-M=t
   ·subst e
    simp only[F1] at h
    have:s-M+M=s:=Aa
    rw[this,F1];exact h
   ·simp only[Gm _ _ e] at h
    rw[Gm _ _ Aa]
    exact aM h
  |false=>
   rw[g] at h
   have q:s<M:=by
    rcases Nat.lt_or_ge s M with h|h
    ·exact h
    ·rw[Nat.ble_eq_true_of_le h] at g;cases g
   rw[Gm _ _ Aa]
   exact aM h
theorem Tg (h:1000000≤t):C.val a t=C.gh t:=by
 have e:Nat.blt t 1000000=false:=by
  cases e:Nat.blt t 1000000 with
  |false=>rfl
  |true=>have:=Xi e;omega
 unfold Cx.val
 rw[e];rfl
def Cx.inn (M:Nat) (C:Cx) (N:Nat) (a:Act):Cx:=⟨C.W,C.fp0,N,fun t=>C.val a (t-M),C.z0⟩
theorem GG.inn {M:Nat} (O:M=1000000) (h:GG C bm gt fp σ a w) {vs:List Value} (s:N≤1000000) (L:vs.length=us.length) (z:us.length≤N)
 (F:∀(i:Nat) u v,us[i]?=some u→vs[i]?=some v→RA C.W.heap.size fp w bm gt u v):
 GG (Cx.inn M C N a) bm gt fp ⟨inM M us σ.tm,σ.bx,σ.tk⟩ {tmps:=vs.toArray++Array.replicate (N-vs.toArray.size) undef,defers:=[]} w:=by
 refine{sz:= ?_,nN:=s,gd:=h.gd,za:=h.za,zb:=h.zb,zf:=h.zf,ztk:=h.ztk,df:=rfl,tm:=fun t u e=> ?_,bx:=h.bx,bxi:=h.bxi,tk:=h.tk,tki:=h.tki,tkb:=h.tkb,fpb:=h.fpb,fp0:=h.fp0,fpB:=h.fpB,bel:=h.bel}
 ·show _=N
  simp;omega
 ·rcases aL e with e|e
  ·obtain⟨_,g⟩:=Xk us 0 e
   rw[Nat.sub_zero] at g
   have E:=(Ew.1 g).1
   have q:t<vs.length:=Aa
   refine⟨vs[t],?_,F t u _ g (Ev q)⟩
   grind [Im,Array.getElem?_append_left]
  ·obtain⟨J,g⟩:=tJ e
   obtain⟨v,H,I⟩:=h.tm _ u g
   exact⟨v,(Tg Aa).trans H,I⟩
theorem GG.out {M:Nat} (I:M=1000000) {s:Act} (g:a.tmps.size=C.N) (E:C.N≤1000000) (q:a.defers=[]) (h:GG (Cx.inn M C N a) bm gt fp σ s w):GG C bm gt fp ⟨Uj M σ.tm,σ.bx,σ.tk⟩ a w:=by
 refine{sz:=g,nN:=E,gd:=h.gd,za:=h.za,zb:=h.zb,zf:=h.zf,ztk:=h.ztk,df:=q,tm:=fun t u z=> ?_,bx:=h.bx,bxi:=h.bxi,tk:=h.tk,tki:=h.tki,tkb:=h.tkb,fpb:=h.fpb,fp0:=h.fp0,fpB:=h.fpB,bel:=h.bel}
 obtain⟨v,F,H⟩:=h.tm _ u (aM z)
 refine⟨v,?_,H⟩
 rw[Tg Aa] at F
 have e:(Cx.inn M C N a).gh (t+M)=C.val a (t+M-M):=rfl
 grind
def AS.ret (σ:AS) (d:Option Nat) (u:AV):AS:=⟨match d with|some t=>(t,u)::Uk σ.tm|none=>Uk σ.tm,σ.bx,σ.tk⟩
def mV (P:Program) (rs:List ResultVar) (d:Option Nat) (S:AS→Prop):Exit→AS→Prop
 | .normal,σ=>∃us,Oo P σ rs us∧S (σ.ret d (single us))
 | .ret,σ=>∃us,Oo P σ rs us∧S (σ.ret d (single us))
 |_,_=>False
section
variable {P:Program} {C:Cx} {o:Oper} {σ:AS}
theorem aN (L:GG C bm gt fp σ a w) (hd:∀t,o.dst=some t→t<C.N) {vs:List Value} {S:AS→Prop} (hf:P.funcs[f]?=some fn) (hb:fn.body=some c) (hn:fn.results.size≤4) (hN:us.length≤fn.ntmps) (V:fn.ntmps≤1000000) (hl:vs.length=us.length)
 (hr:∀(i:Nat) u v,us[i]?=some u→vs[i]?=some v→RA C.W.heap.size fp w bm gt u v)
 (h:∀gh,G3 P ⟨C.W,C.fp0,fn.ntmps,gh,C.z0⟩ c (mV P fn.results.toList o.dst S) ⟨inT us σ.tm,σ.bx,σ.tk⟩) {K:Act→World→Prop} {Q:Exit→Act→World→Prop} (hK:∀σ' F w',S σ'→G C σ' F w'→K F w'):
 o.upon P a K Q (.ok (.enter f vs.toArray) w):=by
 rw[Oper.upon_enter]
 have s:Calls P f vs.toArray w fun e w'=>∃v σ' u,e= .returned v∧S (σ'.ret o.dst u)∧∃bm gt fp F,GG (Cx.inn 1000000 C fn.ntmps a) bm gt fp σ' F w'∧RA C.W.heap.size fp w' bm gt u v:=by
  refine calls_of_wp hf hb ?_
  have hG:=L.inn (M:=1000000) rfl (us:=us) (vs:=vs) V hl hN hr
  refine wp_mono (h _ _ w ⟨bm,gt,fp,hG⟩) fun e Y w' ⟨σ',E,bm',z,q,g⟩=> ?_
  have J:(∃us,Oo P σ' fn.results.toList us∧S (σ'.ret o.dst (single us)))→bodyPost P fn (fun e w'=>∃v σ' u,e= .returned v∧S (σ'.ret o.dst u)∧∃bm gt fp F,GG (Cx.inn 1000000 C fn.ntmps a) bm gt fp σ' F w'∧RA C.W.heap.size fp w' bm gt u v) .ret Y w':=by
   rintro⟨U,Z,h2⟩
   obtain⟨v,I,H⟩:=Si g Z hn
   exact⟨g.df,v,I,v,σ',single U,rfl,h2,bm',z,q,Y,g,H⟩
  cases e with
  |normal=>exact J E
  |ret=>exact J E
  |_=>exact E.elim
 refine s.mono ?_
 rintro e w' ⟨v,σ',u,rfl,hS,bm',z,q,F,g,H⟩
 simp only[]
 have W:=g.out (M:=1000000) rfl L.sz L.nN L.df
 refine hK _ _ _ hS ?_
 unfold AS.ret
 cases O:o.dst with
 |none=>exact⟨bm',z,q,W⟩
 |some t=>exact⟨bm',z,q,W.put (t:=t) (hd t O) H⟩
theorem mW {S:AS→Prop} (F:o.op= .call {callee:= .value (.func f),args:=args,argTypes:=ats}) (H:∀t,o.dst=some t→t<C.N)
 (L:evL σ args.toList=some us) (U:∀g w,(callFunc f g).run P w= .ok (.enter f g) w) (z:P.funcs[f]?=some fn) (V:fn.body=some c) (I:fn.results.size≤4) (E:us.length≤fn.ntmps) (q:fn.ntmps≤1000000)
 (h:∀J,G3 P ⟨C.W,C.fp0,fn.ntmps,J,C.z0⟩ c (mV P fn.results.toList o.dst S) ⟨inT us σ.tm,σ.bx,σ.tk⟩):J3 P C o σ S:=by
 rintro a w ⟨bm,gt,fp,s⟩ K Q v
 obtain⟨M,O⟩:=s.evA L
 have e:(execOp a.eval o).run P w= .ok (.enter f (args.toList.map a.eval).toArray) w:=by
  simp only[execOp,F,resolve,Deferred.ofValue,Act.eval,invoke,Au,Bs,A6,U]
  obtain⟨l⟩:=args
  simp
 unfold Oper.wp
 rw[e]
 exact aN s H z V I E q M O h v
theorem fP {s:Nat} {cs:List AV} {S:AS→Prop} (W:o.op= .call {callee:= .value (.tmp s),args:=args,argTypes:=ats}) (Z:∀t,o.dst=some t→t<C.N)
 (H:σ.eval (.tmp s)=some (.cl f fs cs)) (M:evL σ args.toList=some us) (he:∀q w,(callFunc f q).run P w= .ok (.enter f q) w) (U:P.funcs[f]?=some fn) (hb:fn.body=some c) (hn:fn.results.size≤4) (V:(fs++us++cs).length≤fn.ntmps) (I:fn.ntmps≤1000000)
 (h:∀gh,G3 P ⟨C.W,C.fp0,fn.ntmps,gh,C.z0⟩ c (mV P fn.results.toList o.dst S) ⟨inT (fs++us++cs) σ.tm,σ.bx,σ.tk⟩):J3 P C o σ S:=by
 rintro a w ⟨bm,gt,fp,J⟩ K Q O
 obtain⟨hl,hr⟩:=J.evA M
 have z:=J.eval (x:= .tmp s) H
 generalize L:a.eval (.tmp s)=v at z
 cases z with
 |cl ms Y h3 h4 h6 h7=>
  have e:(execOp a.eval o).run P w= .ok (.enter f (ms++args.toList.map a.eval++Y).toArray) w:=by
   simp only[execOp,W,resolve,L,Deferred.ofValue,invoke,Au,Bs,A6,he]
   obtain⟨l⟩:=args
   simp
  unfold Oper.wp
  rw[e]
  have g:∀{xs E:List AV} {ps F:List Value},ps.length=xs.length→F.length=E.length→(∀(i:Nat) u v,xs[i]?=some u→ps[i]?=some v→RA C.W.heap.size fp w bm gt u v)→(∀(i:Nat) u v,E[i]?=some u→F[i]?=some v→RA C.W.heap.size fp w bm gt u v)→∀(i:Nat) u v,(xs++E)[i]?=some u→(ps++F)[i]?=some v→RA C.W.heap.size fp w bm gt u v:=by
   intro xs E ps F e1 e2 h1 h2 i u v M L
   by_cases hi:i<xs.length
   ·grind
   ·grind
  refine aN J Z U hb hn V I ?_ (g (by grind) h4 (g h3 hl h6 hr) h7) h O
  grind
end
abbrev TM:=List (Nat×AV)
variable {tm:TM}
abbrev BX:=List (Nat×List AV)
variable {bx:BX}
abbrev TK:=List (Nat×Nat×Nat×TypeId)
variable {tk:TK}
abbrev KS:=TM→BX→TK→Prop
variable {K:KS}
structure Tab where
 ty:List (Nat×TypeDesc×Value×Nat×Nat)
 fd:List (Nat×List (Nat×Nat×Bool))
 st:List (Nat×List (Nat×Nat))
 mu:List Nat
 off:Nat
structure TabOk (P:Program) (T:Tab):Prop where
 ty:∀{t d z sz b},lk t T.ty=some (d,z,sz,b)→TyOk P t d z sz b
 fd:∀{t:Nat} {l i off sz ag},lk t T.fd=some l→l[i]?=some (off,sz,ag)→FldOk P t i off sz ag
 st:∀{t pl},lk t T.st=some pl→StrOk P t pl
structure NBr (b:Bool) (A B:Prop):Prop where
 t:b=true→A
 f:b=false→B
structure NInt (e:Int) (A:Int→Prop):Prop where
 h:∀z,e=z→A z
structure NFact (F A:Prop):Prop where
 h:F
 k:A
structure NIdx (cs:List D) (n sz:Nat) (j:Int) (A:List D→Prop):Prop where
 h:∃(i:Nat) (ds:List D),j=(i:Int)∧i<n∧(cs.drop (i*sz)).take sz=ds∧A ds
structure NIdxS (l:List UInt8) (j:Int) (A:UInt8→Prop):Prop where
 h:∃(i:Nat) (b:UInt8),j=(i:Int)∧l[i]?=some b∧A b
structure NSl (cs:List D) (n sz:Nat) (lo hi mx:Int) (A:Nat→List D→Prop):Prop where
 h:∃(l h m r:Nat) (ds:List D),lo=(l:Int)∧hi=(h:Int)∧mx=(m:Int)∧l≤h∧h≤m∧m≤n∧h-l=r∧(cs.drop (l*sz)).take (r*sz)=ds∧A r ds
structure NSlS (s:List UInt8) (lo hi:Int) (A:List UInt8→Prop):Prop where
 h:∃(l h:Nat) (r:List UInt8),lo=(l:Int)∧hi=(h:Int)∧l≤h∧h≤s.length∧(s.drop l).take (h-l)=r∧A r
structure NStr (cs:List D) (A:List UInt8→Prop):Prop where
 h:∃l,cs=Fj l∧A l
structure NApp (n' n m:Nat) (cs ds:List D) (A:Nat→List D→Prop):Prop where
 h:n'=n∧n+m≤1000000000∧∃(r:Nat) (es:List D),n+m=r∧cs++ds=es∧A r es
structure NCall (P:Program) (f:FuncId) (args:List AV) (A:AV→Prop):Prop where
 h:∃r,Es P f args (fun r'=>r'=r)∧A r
structure NStep (P:Program) (C:Cx) (o:Oper) (tm:TM) (bx:BX) (tk:TK) (K:KS):Prop where
 h:∃S,J3 P C o ⟨tm,bx,tk⟩ S∧∀σ',S σ'→K σ'.tm σ'.bx σ'.tk
structure NLa (P:Program) (C:Cx) (o:Oper) (tm:TM) (bx:BX) (tk:TK) (k:It→Prop):Prop where
 h:∃it,LA P C o it ⟨tm,bx,tk⟩∧k it
def tK (kn:KS) (ke:Nat→KS) (kr:KS):Exit→AS→Prop
 | .normal,σ=>kn σ.tm σ.bx σ.tk
 | .exit id,σ=>ke id σ.tm σ.bx σ.tk
 | .ret,σ=>kr σ.tm σ.bx σ.tk
 |_,_=>False
structure NCode (P:Program) (C:Cx) (c:Code) (tm:TM) (bx:BX) (tk:TK) (kn:KS) (ke:Nat→KS) (kr:KS):Prop where
 h:G3 P C c (tK kn ke kr) ⟨tm,bx,tk⟩
structure NLoop (tm:TM) (bx:BX) (tk:TK) (R:KS→KS):Prop where
 h:∃(α:Type) (inv:α→Prop) (ms:α→Nat) (st:α→AS) (W:AS→AS→Prop) (a0:α),(∀a b,W a b→Ent a b)∧inv a0∧Ent ⟨tm,bx,tk⟩ (st a0)∧
  ∀a,inv a→R (fun tm' bx' tk'=>∃a',inv a'∧ms a'<ms a∧W ⟨tm',bx',tk'⟩ (st a')) (st a).tm (st a).bx (st a).tk
structure NEnd (tm:TM) (bx:BX) (tk:TK) (u:AV) (Φ:AV→Prop):Prop where
 h:∃r,Fini ⟨tm,bx,tk⟩ u r∧Φ r
noncomputable def G9 {α:Type} (l:List α) (K:List α→Prop):Prop:=
 @List.rec α (fun _=>(List α→Prop)→Prop) (fun K=>K []) (fun x _ ih K=>ih (fun ys=>K (x::ys))) l K
theorem Gg {α:Type}:∀{l:List α} {K:List α→Prop},G9 l K→K l
 |[],_,h=>h
 |x::r,K,h=>Gg (l:=r) (K:=fun e=>K (x::e)) h
def evT (tm:TM):Operand→Option AV
 | .tmp t=>bif Nat.blt t 1000000 then lk t tm else none
 | .const v=>some (.d (.v v))
 | .func f=>some (.d (.fn f []))
 | .global _=>none
theorem Fw (h:evT tm x=some u):AS.eval ⟨tm,bx,tk⟩ x=some u:=by cases x<;>exact h
noncomputable def tL (tm:TM) (l:List Operand) (K:List AV→Prop) (dflt:Prop):Prop:=
 @List.rec Operand (fun _=>(List AV→Prop)→Prop) (fun K=>K []) (fun x _ ih K=>match evT tm x with
  |some u=>ih (fun us=>K (u::us))
  |none=>dflt) l K
theorem Th {tm:TM} {bx:BX} {tk:TK} {dflt:Prop}:∀{l:List Operand} {K:List AV→Prop},tL tm l K dflt→(∃us,evL ⟨tm,bx,tk⟩ l=some us∧K us)∨dflt
 |[],K,h=> .inl ⟨[],rfl,h⟩
 |x::r,K,h=>by
  have e:(match evT tm x with|some u=>tL tm r (fun us=>K (u::us)) dflt|none=>dflt):=h
  cases g:evT tm x with
  |none=>rw[g] at e;exact .inr e
  |some u=>
   rw[g] at e
   rcases Th (bx:=bx) (tk:=tk) e with⟨us,s,q⟩|q
   all_goals grind [evL,Fw]
noncomputable def UQ (tm:TM) (l:List (Nat×Operand)) (K:List (Nat×AV)→Prop) (dflt:Prop):Prop:=
 @List.rec (Nat×Operand) (fun _=>(List (Nat×AV)→Prop)→Prop) (fun K=>K []) (fun x _ ih K=>match evT tm x.2 with
  |some u=>ih (fun us=>K ((x.1,u)::us))
  |none=>dflt) l K
theorem jC {tm:TM} {bx:BX} {tk:TK} {dflt:Prop}:∀{l:List (Nat×Operand)} {K:List (Nat×AV)→Prop},UQ tm l K dflt→(∃us,evP ⟨tm,bx,tk⟩ l=some us∧K us)∨dflt
 |[],K,h=> .inl ⟨[],rfl,h⟩
 |(i,x)::r,K,h=>by
  have e:(match evT tm x with|some u=>UQ tm r (fun us=>K ((i,u)::us)) dflt|none=>dflt):=h
  cases g:evT tm x with
  |none=>rw[g] at e;exact .inr e
  |some u=>
   rw[g] at e
   rcases jC (bx:=bx) (tk:=tk) e with⟨us,s,q⟩|q
   all_goals grind [evP,Fw]
def kvW (N:Nat) (dst:Option Nat) (rb:List Nat) (u:AV) (k:It→Prop) (dflt:Prop):Prop:=
 match dst with
 |some t=>bif Nat.blt t N then k ⟨rb,some (t,u),none,none,[],[],[],[]⟩ else dflt
 |none=>dflt
theorem Ip {e:List Nat} {k:It→Prop} {dflt:Prop} (h:kvW N dst e u k dflt):(∃t,dst=some t∧t<N∧k ⟨e,some (t,u),none,none,[],[],[],[]⟩)∨dflt:=by
 unfold kvW at h
 split at h
 ·rename_i t
  cases g:Nat.blt t N with
  |true=>simp_all
  |false=>rw[g] at h;exact .inr h
 ·exact .inr h
def mX (T:Tab) (t:Nat) (K:Nat→Prop):Prop:=
 match T.off with
 |0=>K t
 |n+1=>K (t+(n+1))
theorem Ti {T:Tab} {K:Nat→Prop} (h:mX T t K):∃κ,K κ:=by
 grind [mX]
def Ul (k k':IntKind):Bool:=Nat.beq k.ctorIdx k'.ctorIdx
theorem KI {k k':IntKind} (h:Ul k k'=true):k=k':=by cases k<;>cases k'<;>first|rfl|cases h
section
variable (P:Program) (C:Cx) (T:Tab)
def EE (tm:TM) (dst:Option Nat) (x:Operand) (k:It→Prop) (dflt:Prop):Prop:=
 match evT tm x with
 |some u=>kvW C.N dst [] u k dflt
 |none=>dflt
def KJ (op:BinOp) (k k':IntKind) (m n:Int) (kz:Value→Prop) (dflt:Prop):Prop:=
 match op with
 | .add=>bif Ul k k' then NInt (k.wrap (m+n)) (fun z=>kz (.int k z)) else dflt
 | .sub=>bif Ul k k' then NInt (k.wrap (m-n)) (fun z=>kz (.int k z)) else dflt
 | .mul=>bif Ul k k' then NInt (k.wrap (m*n)) (fun z=>kz (.int k z)) else dflt
 | .and=>bif Ul k k' then NInt (k.wrap (BitVec.ofInt k.bits m&&&BitVec.ofInt k.bits n).toNat) (fun z=>kz (.int k z)) else dflt
 | .or=>bif Ul k k' then NInt (k.wrap (BitVec.ofInt k.bits m|||BitVec.ofInt k.bits n).toNat) (fun z=>kz (.int k z)) else dflt
 | .quo=>bif Ul k k' then NFact (n≠0) (NInt (k.wrap (m.tdiv n)) (fun z=>kz (.int k z))) else dflt
 | .rem=>bif Ul k k' then NFact (n≠0) (NInt (m.tmod n) (fun z=>kz (.int k z))) else dflt
 | .shl=>NFact (0≤n) (NInt (k.wrap (m*2^(min n.toNat k.bits))) (fun z=>kz (.int k z)))
 | .shr=>NFact (0≤n) (NInt (m.fdiv (2^(min n.toNat k.bits))) (fun z=>kz (.int k z)))
 |op=>bif Ul k k' then(match jj op k m n with
  |some z=>kz z
  |none=>dflt) else dflt
def KK (op:BinOp) (xt:TypeId) (p q:Value) (kz:Value→Prop) (dflt:Prop):Prop:=
 match p,q with
 | .int k m,.int k' n=>KJ op k k' m n kz dflt
 | .bool a,.bool b=>(match lk xt T.ty with
   |some (.bool,_,_,_)=>(match op with
    | .eql=>kz (.bool (a==b))
    | .neq=>kz (.bool (!(a==b)))
    |_=>dflt)
   |_=>dflt)
 | .string ⟨⟨l⟩⟩,.string ⟨⟨m⟩⟩=>(match op with
   | .eql=>kz (.bool (l==m))
   | .neq=>kz (.bool (!(l==m)))
   | .add=>NFact (l.length+m.length≤1000000000) (kz (.string ⟨(l++m).toArray⟩))
   |_=>dflt)
 |_,_=>dflt
def cw (tm:TM) (dst:Option Nat) (op:BinOp) (xt:TypeId) (x y:Operand) (k:It→Prop) (dflt:Prop):Prop:=
 match evT tm x,evT tm y with
 |some (.d (.v p)),some (.d (.v q))=>KK T op xt p q (fun z=>kvW C.N dst [] (.d (.v z)) k dflt) dflt
 |_,_=>dflt
def cy (tm:TM) (dst:Option Nat) (op:UnOp) (x:Operand) (k:It→Prop) (dflt:Prop):Prop:=
 match op,evT tm x with
 | .not,some (.d (.v (.bool b)))=>kvW C.N dst [] (.d (.v (.bool !b))) k dflt
 |_,_=>dflt
def KM (ux:AV) (e:TypeId) (kl:List UInt8→Prop) (dflt:Prop):Prop:=
 match lk e T.ty with
 |some (.int .u8,_,_,_)=>(match ux.asSlT 1 with
  |some (_,_,cs)=>NStr cs kl
  |none=>dflt)
 |_=>dflt
def KN (tm:TM) (dst:Option Nat) (src dt:TypeId) (x:Operand) (k:It→Prop) (dflt:Prop):Prop:=
 match evT tm x with
 |some ux=>(match lk dt T.ty with
  |some (.int ki,_,_,_)=>(match ux,lk src T.ty with
   | .d (.v (.int _ m)),some _=>NInt (ki.wrap m) (fun z=>kvW C.N dst [] (.d (.v (.int ki z))) k dflt)
   |_,_=>dflt)
  |some (.string,_,_,_)=>(match lk src T.ty with
   |some (.string,_,_,_)=>(match ux with
    | .d (.v (.string s))=>kvW C.N dst [] (.d (.v (.string s))) k dflt
    |_=>dflt)
   |some (.slice e,_,_,_)=>KM T ux e (fun l=>kvW C.N dst [] (.d (.v (.string ⟨l.toArray⟩))) k dflt) dflt
   |_=>dflt)
  |_=>dflt)
 |none=>dflt
def aO (tm:TM) (dst:Option Nat) (x:Operand) (i:Nat) (k:It→Prop) (dflt:Prop):Prop:=
 match evT tm x with
 |some (.tup us)=>(match us[i]? with
  |some u=>kvW C.N dst [] u k dflt
  |none=>dflt)
 |_=>dflt
noncomputable def KO (tm:TM) (bx:BX) (dst:Option Nat) (ty:TypeId) (x:Operand) (k:It→Prop) (dflt:Prop):Prop:=
 match lk ty T.ty with
 |some (d,_,sz,_)=>(match evT tm x with
  |some (.ptr b off)=>(match lk b bx with
   |some cs=>bif Om d then G9 ((cs.drop off).take sz) (fun us=>bif Nat.beq us.length sz then kvW C.N dst [b] (.agg us) k dflt else dflt)
    else(match cs[off]? with
     |some u=>kvW C.N dst [b] u k dflt
     |none=>dflt)
   |none=>dflt)
  |some (.d (.cp _ ds))=>bif Om d then(bif Nat.beq ds.length sz then G9 (ds.map AV.d) (fun us=>kvW C.N dst [] (.agg us) k dflt) else dflt)
    else(match ds with
     |u::_=>kvW C.N dst [] (.d u) k dflt
     |[]=>dflt)
  |_=>dflt)
 |none=>dflt
noncomputable def tM (tm:TM) (bx:BX) (dst:Option Nat) (ty:TypeId) (x y:Operand) (k:It→Prop) (dflt:Prop):Prop:=
 match dst,lk ty T.ty with
 |none,some (_,_,sz,_)=>(match evT tm x,evT tm y with
  |some (.ptr b off),some u=>(match lk b bx with
   |some cs=>bif u.flat&&Nat.beq u.cells.length sz&&Nat.ble (off+sz) cs.length then G9 (Kg cs off u.cells) (fun cs'=>k ⟨[b],none,some (b,cs'),none,[],[],[],[]⟩) else dflt
   |none=>dflt)
  |_,_=>dflt)
 |_,_=>dflt
noncomputable def tN (dst:Option Nat) (ty:TypeId) (k:It→Prop) (dflt:Prop):Prop:=
 match dst,lk ty T.ty with
 |some t,some (_,z,_,_)=>bif Nat.blt t C.N then mX T t (fun κ=>G9 (z.cells.toList.map (fun x=>AV.d (.v x))) (fun zs=>k ⟨[],some (t,.ptr κ 0),some (κ,zs),none,[κ],[],[],[]⟩)) else dflt
 |_,_=>dflt
noncomputable def cz (tm:TM) (dst:Option Nat) (ty:TypeId) (x:Operand) (k:It→Prop) (dflt:Prop):Prop:=
 match dst,lk ty T.ty,evT tm x with
 |some t,some _,some u=>bif Nat.blt t C.N&&u.flat then mX T t (fun κ=>bif u.clean κ then G9 u.cells (fun cs=>k ⟨[],some (t,.ptr κ 0),some (κ,cs),none,[κ],[],[],[]⟩) else dflt) else dflt
 |_,_,_=>dflt
noncomputable def Ur (tm:TM) (dst:Option Nat) (ty:TypeId) (x:Operand) (i:Nat) (k:It→Prop) (dflt:Prop):Prop:=
 match lk ty T.fd with
 |some fl=>(match fl[i]? with
  |some (off,sz,_)=>bif Nat.blt 0 sz then(match evT tm x with
   |some (.ptr b p)=>kvW C.N dst [] (.ptr b (p+off)) k dflt
   |some (.d (.cp tg ds))=>G9 ((ds.drop off).take sz) (fun ds'=>kvW C.N dst [] (.d (.cp tg ds')) k dflt)
   |_=>dflt) else dflt
  |none=>dflt)
 |none=>dflt
noncomputable def tP (tm:TM) (dst:Option Nat) (ty:TypeId) (x:Operand) (i:Nat) (k:It→Prop) (dflt:Prop):Prop:=
 match lk ty T.fd with
 |some fl=>(match fl[i]? with
  |some (off,sz,ag)=>(match evT tm x with
   |some (.agg us)=>bif ag then G9 ((us.drop off).take sz) (fun us'=>kvW C.N dst [] (.agg us') k dflt)
    else(match us[off]? with
     |some u=>kvW C.N dst [] u k dflt
     |none=>dflt)
   |_=>dflt)
  |none=>dflt)
 |none=>dflt
noncomputable def tQ (tm:TM) (dst:Option Nat) (ty:TypeId) (ps:Array (Nat×Operand)) (k:It→Prop) (dflt:Prop):Prop:=
 match lk ty T.ty,lk ty T.st with
 |some (_,z,_,_),some pl=>UQ tm ps.toList (fun us=>match L3 (fun i:Nat=>pl[i]?) (z.cells.toList.map (fun x=>AV.d (.v x))) us with
  |some cs=>G9 cs (fun cs=>kvW C.N dst [] (.agg cs) k dflt)
  |none=>dflt) dflt
 |_,_=>dflt
noncomputable def KP (tm:TM) (dst:Option Nat) (st:TypeId) (n:Nat) (ps:Array (Nat×Operand)) (k:It→Prop) (dflt:Prop):Prop:=
 match dst,lk st T.ty with
 |some t,some (.slice e,_,_,_)=>(match lk e T.ty with
  |some (_,z,sz,_)=>bif Nat.blt t C.N&&Nat.ble (n*sz) 1000&&Nat.ble n 1000 then UQ tm ps.toList (fun us=>match L3 (fun i=>some (i*sz,sz)) ((List.range (n*sz)).map fun i=>AV.d (.v (z.cells[i%z.cells.size]!))) us with
   |some cs=>(match Nv cs with
    |some ds=>bif aD cs then mX T t (fun κ=>G9 ds (fun ds=>k ⟨[],some (t,.own κ n sz e ds),none,some (κ,n,sz,e),[κ],[],[],[]⟩)) else dflt
    |none=>dflt)
   |none=>dflt) dflt else dflt
  |none=>dflt)
 |_,_=>dflt
def KQ (tm:TM) (dst:Option Nat) (st:TypeId) (x y:Operand) (k:It→Prop) (dflt:Prop):Prop:=
 match lk st T.ty with
 |some (.slice e,_,_,_)=>(match lk e T.ty with
  |some (_,_,sz,_)=>bif Nat.blt 0 sz then(match evT tm x,evT tm y with
   |some ux,some (.d (.v (.int _ j)))=>(match ux.asSlT sz with
    |some (tg,n,cs)=>NIdx cs n sz j (fun ds=>kvW C.N dst [] (.d (.cp tg ds)) k dflt)
    |none=>dflt)
   |_,_=>dflt) else dflt
  |none=>dflt)
 |_=>dflt
def d6 (tm:TM) (dst:Option Nat) (st:TypeId) (x y:Operand) (k:It→Prop) (dflt:Prop):Prop:=
 match lk st T.ty with
 |some (.string,_,_,_)=>(match evT tm x,evT tm y with
  |some (.d (.v (.string ⟨⟨l⟩⟩))),some (.d (.v (.int _ j)))=>NIdxS l j (fun b=>kvW C.N dst [] (.d (.v (.int .u8 b.toNat))) k dflt)
  |_,_=>dflt)
 |_=>dflt
def tR (tm:TM) (x:Option Operand) (d:Nat) (K:Int→Prop) (dflt:Prop):Prop:=
 match x with
 |none=>K (d:Int)
 |some x=>(match evT tm x with
  |some (.d (.v (.int _ z)))=>K z
  |_=>dflt)
def tS (tm:TM) (dst:Option Nat) (st:TypeId) (x:Operand) (ol oh om:Option Operand) (k:It→Prop) (dflt:Prop):Prop:=
 match lk st T.ty with
 |some (.slice e,_,_,_)=>(match lk e T.ty with
  |some (_,_,sz,_)=>(match evT tm x with
   |some ux=>(match ux.asSlT sz with
    |some (tg,n,cs)=>(match oh,om with
     |none,some _=>dflt
     |_,_=>tR tm ol 0 (fun lo=>tR tm oh n (fun hi=>tR tm om n (fun mx=>NSl cs n sz lo hi mx (fun r ds=>kvW C.N dst [] (.d (.sl tg r sz ds)) k dflt)) dflt) dflt) dflt)
    |none=>dflt)
   |none=>dflt)
  |none=>dflt)
 |some (.string,_,_,_)=>(match evT tm x,om with
  |some (.d (.v (.string ⟨⟨l⟩⟩))),none=>tR tm ol 0 (fun lo=>tR tm oh l.length (fun hi=>NSlS l lo hi (fun r=>kvW C.N dst [] (.d (.v (.string ⟨r.toArray⟩))) k dflt)) dflt) dflt
  |_,_=>dflt)
 |_=>dflt
def KR (dst:Option Nat) (r:AV) (k:It→Prop) (dflt:Prop):Prop:=
 match dst with
 |some t=>bif Nat.blt t C.N then mX T t (fun κ=>match r with
  | .own _ n sz e cs=>k ⟨[],some (t,.own κ n sz e cs),none,some (κ,n,sz,e),[κ],[],[],[]⟩
  | .tup us=>(match us with
    | .own _ n sz e cs::rest=>k ⟨[],some (t,.tup (.own κ n sz e cs::rest)),none,some (κ,n,sz,e),[κ],[],[],[]⟩
    |us=>k ⟨[],some (t,.tup us),none,none,[κ],[],[],[]⟩)
  |u=>k ⟨[],some (t,u),none,none,[κ],[],[],[]⟩) else dflt
 |none=>dflt
noncomputable def KT (tm:TM) (dst:Option Nat) (c:Call) (k:It→Prop) (dflt:Prop):Prop:=
 match c with
 |⟨.value (.func f),args,_⟩=>bif Jo f T.mu then dflt else tL tm args.toList (fun us=>bif Fb us then NCall P f (D8 us) (fun r=>KR C T dst r k dflt) else dflt) dflt
 |⟨.value (.tmp s),args,_⟩=>(match evT tm (.tmp s) with
  |some (.d (.fn f caps))=>bif Jo f T.mu then dflt else tL tm args.toList (fun us=>bif Fb us then NCall P f (D8 us++D8 (caps.map AV.d)) (fun r=>KR C T dst r k dflt) else dflt) dflt
  |some (.cl f fs cs)=>bif Jo f T.mu then dflt else tL tm args.toList (fun us=>bif Fb fs&&Fb us&&Fb cs then NCall P f (D8 fs++D8 us++D8 cs) (fun r=>KR C T dst r k dflt) else dflt) dflt
  |_=>dflt)
 |⟨.builtin .len,⟨[x]⟩,⟨[st]⟩⟩=>(match lk st T.ty,evT tm x with
  |some (.string,_,_,_),some (.d (.v (.string ⟨⟨l⟩⟩)))=>kvW C.N dst [] (.d (.v (.int .i64 l.length))) k dflt
  |some (.slice e,_,_,_),some ux=>(match lk e T.ty with
   |some (_,_,sz,_)=>(match ux.asSlT sz with
    |some (_,n,_)=>kvW C.N dst [] (.d (.v (.int .i64 n))) k dflt
    |none=>dflt)
   |none=>dflt)
  |_,_=>dflt)
 |_=>dflt
noncomputable def KU (tm:TM) (dst:Option Nat) (f:FuncId) (first captured:Array Operand) (k:It→Prop) (dflt:Prop):Prop:=
 tL tm first.toList (fun fs=>tL tm captured.toList (fun cs=>kvW C.N dst [] (.cl f fs cs) k dflt) dflt) dflt
noncomputable def EF (o:Oper) (tm:TM) (bx:BX) (k:It→Prop) (dflt:Prop):Prop:=
 match o.op with
 | .move x=>EE C tm o.dst x k dflt
 | .assign x=>EE C tm o.dst x k dflt
 | .pick c x y=>(match evT tm c with
   |some (.d (.v (.bool b)))=>NBr b (EE C tm o.dst x k dflt) (EE C tm o.dst y k dflt)
   |_=>dflt)
 | .binOp op xt x y _=>cw C T tm o.dst op xt x y k dflt
 | .unOp op _ x=>cy C tm o.dst op x k dflt
 | .convert s d x=>KN C T tm o.dst s d x k dflt
 | .extract x i=>aO C tm o.dst x i k dflt
 | .load ty x=>KO C T tm bx o.dst ty x k dflt
 | .store ty x y=>tM T tm bx o.dst ty x y k dflt
 | .alloc ty=>tN C T o.dst ty k dflt
 | .box ty x=>cz C T tm o.dst ty x k dflt
 | .fieldAddr ty x i=>Ur C T tm o.dst ty x i k dflt
 | .field ty x i=>tP C T tm o.dst ty x i k dflt
 | .build ty ps=>tQ C T tm o.dst ty ps k dflt
 | .buildSlice st n ps=>KP C T tm o.dst st n ps k dflt
 | .indexAddr st x y=>KQ C T tm o.dst st x y k dflt
 | .index st x y=>d6 C T tm o.dst st x y k dflt
 | .slice st x l h m=>tS C T tm o.dst st x l h m k dflt
 | .call c=>KT P C T tm o.dst c k dflt
 | .makeFunc (.func f) first captured=>KU C tm o.dst f first captured k dflt
 |_=>dflt
def ocK {β:Type} (o:Option (Nat×β)) (l:List (Nat×β)) (K:List (Nat×β)→Prop):Prop:=
 match o with
 |some x=>K (x::l)
 |none=>K l
theorem tT {e:Type} {o:Option (Nat×e)} {l:List (Nat×e)} {K:List (Nat×e)→Prop} (h:ocK o l K):K (oc o l):=by
 unfold ocK at h;split at h<;>exact h
def mtK {β:Type} (m:List (Nat×β)) (l:List (Nat×β)) (K:List (Nat×β)→Prop):Prop:=
 match m with
 |[]=>K l
 |x::r=>K ((x::r)++l)
theorem KV {e:Type} {m l:List (Nat×e)} {K:List (Nat×e)→Prop} (h:mtK m l K):K (m++l):=by
 unfold mtK at h;split at h<;>exact h
def jD (it:It) (tm:TM) (bx:BX) (tk:TK) (K:KS):Prop:=mtK it.mt tm fun tm=>mtK it.mb bx fun bx=>ocK it.tm tm fun tm'=>ocK it.bx bx fun bx'=>ocK it.tk tk fun tk'=>K tm' bx' tk'
theorem Zk {e:It} (h:jD e tm bx tk K):K (AS.add ⟨tm,bx,tk⟩ e).tm (AS.add ⟨tm,bx,tk⟩ e).bx (AS.add ⟨tm,bx,tk⟩ e).tk:=tT (tT (tT (KV (KV h))))
def mY (ids:List Nat) (tm:TM) (bx:BX):Bool:=
 match ids with
 |[]=>true
 |[t]=>clT t tm&&clB t bx
 |l=>l.all fun t=>clT t tm&&clB t bx
theorem KW {e:List Nat} (h:mY e tm bx=true):ClA e ⟨tm,bx,tk⟩:=by
 intro id hid
 unfold mY at h
 split at h
 ·simp at hid
 ·simp at hid;subst hid;exact h
 ·exact B0.1 h id hid
def mZ (ids:List Nat) (it:It) (tm:TM) (bx:BX):Bool:=
 match ids with
 |[]=>true
 |l=>l.all fun id=>clX it id tm bx
theorem KX {e:It} (h:mZ e.ex e tm bx=true):AgB e ⟨tm,bx,tk⟩ ⟨tm,bx,tk⟩:=by
 refine⟨fun _ _=>rfl,fun _ _=>rfl,fun _ _=>rfl,fun _ _=>rfl,fun id hid=> ?_⟩
 grind [mZ,List.all_eq_true,id]
noncomputable def shK (k:Nat) (tm:TM) (K:TM→Prop):Prop:=
 @List.rec (Nat×AV) (fun _=>(TM→Prop)→Prop) (fun K=>K []) (fun p _ ih K=>match p with
  |(j,.d x)=>ih (fun r=>K ((j,.d x)::r))
  |(j,.ptr a o)=>ih (fun r=>K ((j,.ptr a o)::r))
  |(j,.sem φ)=>ih (fun r=>K ((j,.sem φ)::r))
  |(j,.own i n sz e cs)=>bif Nat.beq i k then ih (fun r=>K ((j,.d (.sl true n sz cs))::r)) else ih (fun r=>K ((j,.own i n sz e cs)::r))
  |(j,u)=>ih (fun r=>K ((j,u.share k)::r))) tm K
theorem P3 {k:Nat}:∀{tm:TM} {K:TM→Prop},shK k tm K→K (shT k tm)
 |[],_,h=>h
 |(j,u)::r,K,h=>by
  have g:(match((j,u):Nat×AV) with
   |(j,.d x)=>shK k r (fun r=>K ((j,.d x)::r))
   |(j,.ptr a o)=>shK k r (fun r=>K ((j,.ptr a o)::r))
   |(j,.sem s)=>shK k r (fun r=>K ((j,.sem s)::r))
   |(j,.own i n sz e cs)=>bif Nat.beq i k then shK k r (fun r=>K ((j,.d (.sl true n sz cs))::r)) else shK k r (fun r=>K ((j,.own i n sz e cs)::r))
   |(j,u)=>shK k r (fun r=>K ((j,u.share k)::r))):=h
  cases u with
  |own i n sz e cs=>
   simp only at g
   cases q:Nat.beq i k with
   |true=>
    rw[q] at g
    have:=P3 g
    simpa only[shT,AV.share,q] using this
   |false=>
    rw[q] at g
    have:=P3 g
    simpa only[shT,AV.share,q] using this
  |d x=>exact P3 (K:=fun r=>K ((j,.d x)::r)) g
  |ptr a o=>exact P3 (K:=fun r=>K ((j,.ptr a o)::r)) g
  |agg cs=>exact P3 (K:=fun r=>K ((j,(AV.agg cs).share k)::r)) g
  |tup cs=>exact P3 (K:=fun r=>K ((j,(AV.tup cs).share k)::r)) g
  |sem s=>exact P3 (K:=fun r=>K ((j,(AV.sem s).share k)::r)) g
  |cl f fs cs=>exact P3 (K:=fun r=>K ((j,(AV.cl f fs cs).share k)::r)) g
  |pk a o n sz=>exact P3 (K:=fun r=>K ((j,(AV.pk a o n sz).share k)::r)) g
noncomputable def d7 (k:Nat) (bx:BX) (K:BX→Prop):Prop:=bif clB k bx then K bx else G9 (shB k bx) K
theorem UR {k:Nat} {K:BX→Prop} (h:d7 k bx K):K (shB k bx):=by
 grind [d7,clB,Qe,Gg]
noncomputable def US (o:Oper) (tm:TM) (bx:BX) (tk:TK) (K:KS) (dflt:Prop):Prop:=
 match o.op,o.dst with
 | .call ⟨.builtin .append,⟨[s,x]⟩,⟨[st,st']⟩⟩,some t=>(match lk st T.ty with
   |some (.slice e,_,_,_)=>(match lk e T.ty with
    |some (_,z,sz,by')=>bif Nat.blt t C.N&&Nat.beq st st'&&Nat.beq z.cells.toList.length sz&&Nat.blt 0 sz&&Nat.ble by' 1000 then(match evT tm s,evT tm x with
     |some (.own k n sz' e' cs),some ux=>(match lk k tk,ux.asSl sz with
      |some (n',sz'',e''),some (m,ds)=>bif Nat.beq sz' sz&&Nat.beq sz'' sz&&Nat.beq e' e&&Nat.beq e'' e then NApp n' n m cs ds (fun r es=>shK k tm (fun tm'=>d7 k bx (fun bx'=>K ((t,.own k r sz e es)::tm') bx' ((k,r,sz,e)::tk)))) else dflt
      |_,_=>dflt)
     |some (.d (.v (.slice none 0 0))),some ux=>(match ux.asSl sz with
      |some (m,ds)=>mX T t (fun κ=>bif clT κ tm&&clB κ bx then NApp 0 0 m [] ds (fun r es=>K ((t,.own κ r sz e es)::tm) bx ((κ,r,sz,e)::tk)) else dflt)
      |none=>dflt)
     |_,_=>dflt) else dflt
    |none=>dflt)
   |_=>dflt)
 |_,_=>dflt
noncomputable def jE (o:Oper) (tm:TM) (bx:BX) (tk:TK) (k:It→Prop) (dflt:Prop):Prop:=
 match o.op,o.dst with
 | .call ⟨.builtin .append,⟨[s,x]⟩,⟨[st,st']⟩⟩,some t=>(match lk st T.ty with
   |some (.slice e,_,_,_)=>(match lk e T.ty with
    |some (_,z,sz,by')=>bif Nat.blt t C.N&&Nat.beq st st'&&Nat.beq z.cells.toList.length sz&&Nat.blt 0 sz&&Nat.ble by' 1000 then(match evT tm s,evT tm x with
     |some (.own i n sz' e' cs),some ux=>(match lk i tk,ux.asSl sz with
      |some (n',sz'',e''),some (m,ds)=>bif Nat.beq sz' sz&&Nat.beq sz'' sz&&Nat.beq e' e&&Nat.beq e'' e then NApp n' n m cs ds (fun r es=>G9 (drT i tm tm) (fun mt=>G9 (drB i bx bx) (fun mb=>k ⟨[],some (t,.own i r sz e es),none,some (i,r,sz,e),[],mt,mb,[i]⟩))) else dflt
      |_,_=>dflt)
     |some (.d (.v (.slice none 0 0))),some ux=>(match ux.asSl sz with
      |some (m,ds)=>mX T t (fun κ=>NApp 0 0 m [] ds (fun r es=>k ⟨[],some (t,.own κ r sz e es),none,some (κ,r,sz,e),[κ],[],[],[]⟩))
      |none=>dflt)
     |_,_=>dflt) else dflt
    |none=>dflt)
   |_=>dflt)
 |_,_=>dflt
noncomputable def nA (k:Nat) (ds:List D) (tm:TM) (K:TM→Prop):Prop:=
 @List.rec (Nat×AV) (fun _=>(TM→Prop)→Prop) (fun K=>K []) (fun p _ ih K=>match p with
  |(j,.d x)=>ih (fun r=>K ((j,.d x)::r))
  |(j,.ptr a o)=>bif Nat.beq a k then ih (fun r=>K ((j,.d (.cp false (ds.drop o)))::r)) else ih (fun r=>K ((j,.ptr a o)::r))
  |(j,.own i n sz e cs)=>ih (fun r=>K ((j,.own i n sz e cs)::r))
  |(j,u)=>ih (fun r=>K ((j,u.frz k ds)::r))) tm K
theorem M8 {k:Nat} {ds:List D}:∀{tm:TM} {K:TM→Prop},nA k ds tm K→K (frT k ds tm)
 |[],_,h=>h
 |(j,u)::r,K,h=>by
  have g:(match((j,u):Nat×AV) with
   |(j,.d x)=>nA k ds r (fun r=>K ((j,.d x)::r))
   |(j,.ptr a o)=>bif Nat.beq a k then nA k ds r (fun r=>K ((j,.d (.cp false (ds.drop o)))::r)) else nA k ds r (fun r=>K ((j,.ptr a o)::r))
   |(j,.own i n sz e cs)=>nA k ds r (fun r=>K ((j,.own i n sz e cs)::r))
   |(j,u)=>nA k ds r (fun r=>K ((j,u.frz k ds)::r))):=h
  cases u with
  |ptr a o=>
   simp only at g
   cases q:Nat.beq a k with
   |true=>
    rw[q] at g
    have:=M8 g
    simpa only[frT,AV.frz,q] using this
   |false=>
    rw[q] at g
    have:=M8 g
    simpa only[frT,AV.frz,q] using this
  |d x=>exact M8 (K:=fun r=>K ((j,.d x)::r)) g
  |own i n sz e cs=>exact M8 (K:=fun r=>K ((j,.own i n sz e cs)::r)) g
  |agg cs=>exact M8 (K:=fun r=>K ((j,(AV.agg cs).frz k ds)::r)) g
  |tup cs=>exact M8 (K:=fun r=>K ((j,(AV.tup cs).frz k ds)::r)) g
  |sem s=>exact M8 (K:=fun r=>K ((j,(AV.sem s).frz k ds)::r)) g
  |cl f fs cs=>exact M8 (K:=fun r=>K ((j,(AV.cl f fs cs).frz k ds)::r)) g
  |pk a o n sz=>exact M8 (K:=fun r=>K ((j,(AV.pk a o n sz).frz k ds)::r)) g
noncomputable def fzL (l:List Operand):TM→BX→(TM→BX→Prop)→Prop:=
 @List.rec Operand (fun _=>TM→BX→(TM→BX→Prop)→Prop) (fun tm bx K=>K tm bx) (fun x _ ih tm bx K=>match evT tm x with
  |some (.ptr k _)=>(match lk k bx with
   |some cs=>(match Nv cs with
    |some ds=>G9 ds (fun ds=>nA k ds tm (fun tm'=>G9 (frB k ds bx) (fun bx'=>ih tm' bx' K)))
    |none=>False)
   |none=>False)
  |_=>ih tm bx K) l
noncomputable def d8 (o:Oper) (tm:TM) (bx:BX) (K:TM→BX→Prop):Prop:=
 match o.op with
 | .makeFunc (.func f) _ captured=>bif Jo f T.mu then K tm bx else fzL captured.toList tm bx K
 |_=>K tm bx
noncomputable def tU (o:Oper) (tm:TM) (bx:BX) (tk:TK) (K:KS):Prop:=
 d8 T o tm bx fun tm bx=>EF P C T o tm bx (fun it=>bif mY it.cr tm bx&&mZ it.ex it tm bx then jD it tm bx tk K else False) (US C T o tm bx tk K (NStep P C o tm bx tk K))
def d9 (ops:List Oper) (o:Oper) (tm:TM) (run skip:TM→Prop):Prop:=
 match o.guard with
 |none=>run tm
 |some (j,b)=>(match ops[j]? with
  |some oj=>(match oj.dst with
   |some s=>(match lk s tm with
    |some (.d (.v (.bool c)))=>bif Nat.blt s 1000000 then NBr c ((bif b then run else skip) ((s,.d (.v (.bool true)))::tm)) ((bif b then skip else run) ((s,.d (.v (.bool false)))::tm)) else False
    |some (.d (.v (.tuple _)))=>bif Nat.blt s 1000000 then skip tm else False
    |_=>False)
   |none=>False)
  |none=>False)
noncomputable def L6 (ops:List Oper) (l:List Oper):TM→BX→TK→KS→Prop:=
 @List.rec Oper (fun _=>TM→BX→TK→KS→Prop) (fun tm bx tk K=>K tm bx tk)
  (fun o _ ih tm bx tk K=>d9 ops o tm (fun tm=>tU P C T o tm bx tk (fun tm bx tk=>ih tm bx tk K))
    (fun tm=>match o.dst with
      |some s=>bif Nat.blt s C.N then ih ((s,.d (.v undef))::tm) bx tk K else False
      |none=>ih tm bx tk K)) l
noncomputable def nB (ops:List Oper) (l:List Oper):TM→BX→TK→(List It→KS)→(List It→Oper→KS)→Prop:=
 @List.rec Oper (fun _=>TM→BX→TK→(List It→KS)→(List It→Oper→KS)→Prop) (fun tm bx tk K _=>K [] tm bx tk)
  (fun o rest ih tm bx tk K KL=>
    (fun(run skip:Prop)=>match o.guard with
      |none=>run
      |some (j,b)=>(match ops[j]? with
       |some oj=>(match oj.dst with
        |some s=>(match lk s tm with
         |some (.d (.v (.bool c)))=>bif Nat.blt s 1000000 then NBr c (bif b then run else skip) (bif b then skip else run) else False
         |some (.d (.v (.tuple _)))=>bif Nat.blt s 1000000 then skip else False
         |_=>False)
        |none=>False)
       |none=>False))
    (EF P C T o tm bx (fun it=>jD it tm bx tk (fun tm bx tk=>ih tm bx tk (fun its=>K (it::its)) (fun its=>KL (it::its)))) (match rest with
      |[]=>KL [] o tm bx tk
      |_::_=>jE C T o tm bx tk (fun it=>jD it tm bx tk (fun tm bx tk=>ih tm bx tk (fun its=>K (it::its)) (fun its=>KL (it::its)))) (NLa P C o tm bx tk (fun it=>jD it tm bx tk (fun tm bx tk=>ih tm bx tk (fun its=>K (it::its)) (fun its=>KL (it::its)))))))
    (match o.dst with
      |some s=>bif Nat.blt s C.N then ih ((s,.d (.v undef))::tm) bx tk (fun its=>K (⟨[],some (s,.d (.v undef)),none,none,[],[],[],[]⟩::its)) (fun its=>KL (⟨[],some (s,.d (.v undef)),none,none,[],[],[],[]⟩::its)) else False
      |none=>ih tm bx tk (fun its=>K (⟨[],none,none,none,[],[],[],[]⟩::its)) (fun its=>KL (⟨[],none,none,none,[],[],[],[]⟩::its)))) l
def tV (tm:TM) (c:Operand) (a b:TM→Prop):Prop:=
 match c with
 | .tmp t=>(match evT tm (.tmp t) with
   |some (.d (.v (.bool v)))=>NBr v (a ((t,.d (.v (.bool true)))::tm)) (b ((t,.d (.v (.bool false)))::tm))
   |_=>False)
 | .const (.bool v)=>NBr v (a tm) (b tm)
 |_=>False
noncomputable def Ki (c:Code):KS→(Nat→KS)→KS→KS:=
 @Code.rec (fun _=>KS→(Nat→KS)→KS→KS)
  (fun kn _ _=>kn)
  (fun id ops draw kn ke kr tm bx tk=>bif draw then(bif Jo (id+1000000) T.mu then NCode P C (.region id ops true) tm bx tk kn ke kr else nB P C T ops.toList ops.toList tm bx tk (fun its tm' bx' tk'=>NFact (Nu ops=true∧Xo ops.toList its ⟨tm,bx,tk⟩=true) (kn tm' bx' tk')) (fun its o tm' bx' tk'=>NFact (Nu ops=true∧Zj ops.toList.dropLast o its ⟨tm,bx,tk⟩=true) (L6 P C T ops.toList [o] tm' bx' tk' kn))) else L6 P C T ops.toList ops.toList tm bx tk kn)
  (fun _ _ ihx ihy kn ke kr=>ihx (ihy kn ke kr) ke kr)
  (fun c _ _ iht ihe kn ke kr tm bx tk=>tV tm c (fun tm=>iht kn ke kr tm bx tk) (fun tm=>ihe kn ke kr tm bx tk))
  (fun id _ ih kn ke kr=>ih kn (fun id'=>bif Nat.beq id' id then kn else ke id') kr)
  (fun _ ih _ ke kr tm bx tk=>NLoop tm bx tk (fun kn=>ih kn ke kr))
  (fun f ps a b _ _ kn ke kr tm bx tk=>NCode P C (.rangeFunc f ps a b) tm bx tk kn ke kr)
  (fun id _ ke _=>ke id)
  (fun _ ih=>ih)
  (fun _ kn _ _=>kn)
  (fun _ _ _ _ _ _ _=>False)
  (fun _ _ kr=>kr)
  (fun _ _ _ _ _ _ _=>False) c
noncomputable def nC (tm:TM) (bx:BX) (rs:List ResultVar) (K:List AV→Prop):Prop:=
 @List.rec ResultVar (fun _=>(List AV→Prop)→Prop) (fun K=>K []) (fun r _ ih K=>match r with
  | .tmp t=>(match evT tm (.tmp t) with
    |some u=>ih (fun us=>K (u::us))
    |none=>False)
  | .cell p ty=>(match evT tm (.tmp p),lk ty T.ty with
    |some (.ptr b off),some (d,_,sz,_)=>(match lk b bx with
     |some cs=>bif Om d then G9 ((cs.drop off).take sz) (fun us'=>bif Nat.beq us'.length sz then ih (fun us=>K (.agg us'::us)) else False) else(match cs[off]? with
      |some u=>ih (fun us=>K (u::us))
      |none=>False)
     |none=>False)
    |_,_=>False)) rs K
def jk (tm:TM) (bx:BX) (tk:TK) (Φ:AV→Prop) (us:List AV):Prop:=
 match us with
 |[u]=>NEnd tm bx tk u Φ
 |us=>NEnd tm bx tk (.tup us) Φ
noncomputable def tW (rs:Array ResultVar) (Φ:AV→Prop):KS:=fun tm bx tk=>nC T tm bx rs.toList (jk tm bx tk Φ)
end
section
variable {P:Program} {C:Cx} {T:Tab} {o:Oper} {tm:TM} {bx:BX} {tk:TK} {k:It→Prop} {dflt:Prop}
theorem jF (h:EE C tm dst x k dflt):(∃t u,dst=some t∧t<C.N∧AS.eval ⟨tm,bx,tk⟩ x=some u∧k ⟨[],some (t,u),none,none,[],[],[],[]⟩)∨dflt:=by
 grind [EE,Ip,Fw]
theorem UT {p p':IntKind} {m n:Int} {xt:TypeId} {kz:Value→Prop} (h:KJ op p p' m n kz dflt):(∃z,(∀w,(do eqGuard op xt x y (.int p m) (.int p' n);binOp op xt (.int p m) (.int p' n):Sem Value).run P w= .ok z w)∧kz z)∨dflt:=by
 unfold KJ at h
 cases hs:Ul p p' with
 |true=>
  obtain rfl:=KI hs
  simp only[hs,cond_true] at h
  split at h
  case h_1=>exact .inl ⟨_,fun w=>by simp[eqGuard,binOp,Op.intArith,go_sem],h.h _ rfl⟩
  case h_2=>exact .inl ⟨_,fun w=>by simp[eqGuard,binOp,Op.intArith,go_sem],h.h _ rfl⟩
  case h_3=>exact .inl ⟨_,fun w=>by simp[eqGuard,binOp,Op.intArith,go_sem],h.h _ rfl⟩
  case h_4=>exact .inl ⟨_,fun w=>by simp[eqGuard,binOp,Op.intBits,go_sem],h.h _ rfl⟩
  case h_5=>exact .inl ⟨_,fun w=>by simp[eqGuard,binOp,Op.intBits,go_sem],h.h _ rfl⟩
  case h_6=>exact .inl ⟨_,fun w=>by have:=h.h;simp[eqGuard,binOp,Op.intDiv,go_sem,this],h.k.h _ rfl⟩
  case h_7=>exact .inl ⟨_,fun w=>by have:=h.h;simp[eqGuard,binOp,Op.intDiv,go_sem,this],h.k.h _ rfl⟩
  case h_8=>exact .inl ⟨_,fun w=>by have:=h.h;simp[eqGuard,binOp,Op.shift,go_sem,Int.not_lt.2 this],h.k.h _ rfl⟩
  case h_9=>exact .inl ⟨_,fun w=>by have:=h.h;simp[eqGuard,binOp,Op.shift,go_sem,Int.not_lt.2 this],h.k.h _ rfl⟩
  case h_10=>
   split at h
   ·rename_i z hz
    refine .inl ⟨z,fun w=> ?_,h⟩
    cases op<;>simp only[jj,A7,reduceCtorEq] at hz<;>subst hz<;>simp[eqGuard,binOp,Op.intArith,Op.intCmp,Op.intBits,go_sem]
   ·exact .inr h
 |false=>
  simp only[hs,cond_false] at h
  split at h
  case h_8=>exact .inl ⟨_,fun w=>by have:=h.h;simp[eqGuard,binOp,Op.shift,go_sem,Int.not_lt.2 this],h.k.h _ rfl⟩
  case h_9=>exact .inl ⟨_,fun w=>by have:=h.h;simp[eqGuard,binOp,Op.shift,go_sem,Int.not_lt.2 this],h.k.h _ rfl⟩
  all_goals exact .inr h
theorem UU (hT:TabOk P T) {p q:Value} {xt:TypeId} {kz:Value→Prop} (h:KK T op xt p q kz dflt):(∃z,(∀w,(do eqGuard op xt x y p q;binOp op xt p q:Sem Value).run P w= .ok z w)∧kz z)∨dflt:=by
 unfold KK at h
 split at h
 ·exact UT h
 ·rename_i a b
  split at h
  ·rename_i hl
   have hu:=(hT.ty hl).u
   split at h
   ·exact .inl ⟨_,fun w=>by simp[eqGuard,binOp,mS a b hu],h⟩
   ·exact .inl ⟨_,fun w=>by simp[eqGuard,binOp,mS a b hu],h⟩
   ·exact .inr h
  ·exact .inr h
 ·rename_i l m
  split at h
  ·exact .inl ⟨_,fun w=>by simp[eqGuard,binOp,Op.stringOp,go_sem],h⟩
  ·exact .inl ⟨_,fun w=>by simp[eqGuard,binOp,Op.stringOp,go_sem],h⟩
  ·refine .inl ⟨_,fun w=> ?_,h.k⟩
   have hb:=h.h
   have h1:¬((l.length:Int)+(m.length:Int))>9223372036854775807:=Aa
   have h2:(⟨⟨l⟩⟩:ByteArray)++⟨⟨m⟩⟩=⟨(l++m).toArray⟩:=by
    apply ByteArray.ext
    simp
   have h3:(⟨⟨l⟩⟩:ByteArray).size=l.length:=rfl
   have h4:(⟨⟨m⟩⟩:ByteArray).size=m.length:=rfl
   have h5:IntKind.i64.max=9223372036854775807:=Ae
   simp only[eqGuard,binOp,Op.stringOp,h2,h3,h4,h5,Int.natCast_add,Ai h1]
   rfl
  ·exact .inr h
 ·exact .inr h
theorem da (s:TabOk P T) {e v:TypeId} (F:o.op= .binOp op e x y v) (h:cw C T tm o.dst op e x y k dflt):(∃g,LA P C o g ⟨tm,bx,tk⟩∧k g)∨dflt:=by
 unfold cw at h
 split at h
 ·rename_i p q E H
  rcases UU s (x:=x) (y:=y) h with⟨z,I,h⟩|h
  all_goals grind [Ip,cm,Fw]
 ·exact .inr h
theorem dc {op:UnOp} {g:TypeId} (q:o.op= .unOp op g x) (h:cy C tm o.dst op x k dflt):(∃e,LA P C o e ⟨tm,bx,tk⟩∧k e)∨dflt:=by
 unfold cy at h
 grind [Ip,ck,Fw]
theorem UV (q:TabOk P T) {s d:TypeId} (H:o.op= .convert s d x) (h:KN C T tm o.dst s d x k dflt):(∃M,LA P C o M ⟨tm,bx,tk⟩∧k M)∨dflt:=by
 unfold KN at h
 split at h
 ·rename_i V g
  split at h
  ·rename_i W _ _ _ I
   split at h
   ·rename_i m e E
    obtain⟨ds,_,_,_⟩:=e
    rcases Ip (h.h _ rfl) with⟨t,v,F,z⟩|h
    ·exact .inl ⟨_,UJ H v F (q.ty E).u (q.ty I).u (Fw g) rfl,z⟩
    ·exact .inr h
   ·exact .inr h
  ·rename_i I
   split at h
   ·rename_i E
    split at h
    ·rcases Ip h with⟨t,v,F,z⟩|h
     ·exact .inl ⟨⟨[],some (t,.d (.v (.string _))),none,none,[],[],[],[]⟩,fun _ J _ _=>DO H v F (q.ty E).u (q.ty I).u (tr J (by rw[H];simp[Op.operands]) (Fw g)),z⟩
     ·exact .inr h
    ·exact .inr h
   ·rename_i e _ _ _ E
    unfold KM at h
    split at h
    ·rename_i Q
     split at h
     ·rename_i U n cs L
      obtain⟨l,O,h⟩:=h.h
      rcases Ip h with⟨t,v,F,z⟩|h
      ·exact .inl ⟨_,cu H v F (q.ty E).u (q.ty Q).u (q.ty I).u (Fw g) L O,z⟩
      ·exact .inr h
     ·exact .inr h
    ·exact .inr h
   ·exact .inr h
  ·exact .inr h
 ·exact .inr h
theorem tX (g:o.op= .extract x i) (h:aO C tm o.dst x i k dflt):(∃e,LA P C o e ⟨tm,bx,tk⟩∧k e)∨dflt:=by
 unfold aO at h
 grind [Ip,tG,Fw]
theorem UW (I:TabOk P T) {ty:TypeId} (J:o.op= .load ty x) (h:KO C T tm bx o.dst ty x k dflt):(∃L,LA P C o L ⟨tm,bx,tk⟩∧k L)∨dflt:=by
 unfold KO at h
 split at h
 ·rename_i d z sz M e
  split at h
  ·rename_i b off H
   split at h
   ·rename_i cs F
    cases g:Om d with
    |true=>
     rw[g] at h
     have h:=Gg h
     cases v:Nat.beq ((cs.drop off).take sz).length sz with
     |true=>
      rw[v] at h
      rcases Ip h with⟨t,q,E,s⟩|h
      ·exact .inl ⟨_,JW J q E (Fw H) F (I.ty e) g rfl (Aw v),s⟩
      ·exact .inr h
     |false=>rw[v] at h;exact .inr h
    |false=>
     rw[g] at h
     simp only[cond_false] at h
     split at h
     ·rename_i u O
      rcases Ip h with⟨t,q,E,s⟩|h
      ·exact .inl ⟨_,UK J q E (Fw H) F (I.ty e) g O,s⟩
      ·exact .inr h
     ·exact .inr h
   ·exact .inr h
  ·rename_i Q ds H
   cases g:Om d with
   |true=>
    rw[g] at h
    simp only[cond_true] at h
    cases v:Nat.beq ds.length sz with
    |true=>
     rw[v] at h
     have h:=Gg h
     rcases Ip h with⟨t,q,E,s⟩|h
     ·exact .inl ⟨_,EB J q E (Fw H) (I.ty e) g (Aw v) rfl,s⟩
     ·exact .inr h
    |false=>rw[v] at h;exact .inr h
   |false=>
    rw[g] at h
    simp only[cond_false] at h
    split at h
    ·rename_i u r
     rcases Ip h with⟨t,q,E,s⟩|h
     ·exact .inl ⟨_,JX J q E (Fw H) (I.ty e) g rfl,s⟩
     ·exact .inr h
    ·exact .inr h
  ·exact .inr h
 ·exact .inr h
theorem KY (F:TabOk P T) {ty:TypeId} (H:o.op= .store ty x y) (h:tM T tm bx o.dst ty x y k dflt):(∃s,LA P C o s ⟨tm,bx,tk⟩∧k s)∨dflt:=by
 unfold tM at h
 split at h
 ·rename_i d z sz v J g
  split at h
  ·rename_i b off u I E
   split at h
   ·rename_i cs q
    cases e:(u.flat&&Nat.beq u.cells.length sz&&Nat.ble (off+sz) cs.length) with
    |true=>
     rw[e] at h
     have h:=Gg h
     simp only[Et] at e
     exact .inl ⟨_,JY H J (Fw I) q (Fw E) (F.ty g) e.1.1 (Aw e.1.2) (leN e.2),h⟩
    |false=>rw[e] at h;exact .inr h
   ·exact .inr h
  ·exact .inr h
 ·exact .inr h
theorem KZ (s:TabOk P T) {ty:TypeId} (E:o.op= .alloc ty) (h:tN C T o.dst ty k dflt):(∃q,LA P C o q ⟨tm,bx,tk⟩∧k q)∨dflt:=by
 unfold tN at h
 split at h
 ·rename_i t d z sz v F e
  cases g:Nat.blt t C.N with
  |true=>
   rw[g] at h
   simp only[cond_true] at h
   obtain⟨κ,h⟩:=Ti h
   exact .inl ⟨_,JZ E F (ltN g) (s.ty e) rfl,Gg h⟩
  |false=>rw[g] at h;exact .inr h
 ·exact .inr h
theorem dd (F:TabOk P T) {ty:TypeId} (H:o.op= .box ty x) (h:cz C T tm o.dst ty x k dflt):(∃v,LA P C o v ⟨tm,bx,tk⟩∧k v)∨dflt:=by
 unfold cz at h
 split at h
 ·rename_i t e u J q I
  obtain⟨d,z,sz,E⟩:=e
  cases g:(Nat.blt t C.N&&u.flat) with
  |true=>
   rw[g] at h
   simp only[cond_true] at h
   simp only[Et] at g
   obtain⟨κ,h⟩:=Ti h
   cases s:u.clean κ with
   |true=>rw[s] at h;exact .inl ⟨_,co H J (ltN g.1) (Fw I) (F.ty q) g.2 s,Gg h⟩
   |false=>rw[s] at h;exact .inr h
  |false=>rw[g] at h;exact .inr h
 ·exact .inr h
theorem jG (H:TabOk P T) {ty:TypeId} (I:o.op= .fieldAddr ty x i) (h:Ur C T tm o.dst ty x i k dflt):(∃F,LA P C o F ⟨tm,bx,tk⟩∧k F)∨dflt:=by
 unfold Ur at h
 split at h
 ·rename_i fl e
  split at h
  ·rename_i off sz J E
   cases g:Nat.blt 0 sz with
   |true=>
    rw[g] at h
    simp only[cond_true] at h
    split at h
    ·rename_i b p z
     rcases Ip h with⟨t,q,v,s⟩|h
     ·exact .inl ⟨_,iZ I q v (H.fd e E) (ltN g) (Fw z),s⟩
     ·exact .inr h
    ·rename_i L ds z
     rcases Ip (Gg h) with⟨t,q,v,s⟩|h
     ·exact .inl ⟨_,eJ I q v (H.fd e E) (ltN g) (Fw z) rfl,s⟩
     ·exact .inr h
    ·exact .inr h
   |false=>rw[g] at h;exact .inr h
  ·exact .inr h
 ·exact .inr h
theorem LB (E:TabOk P T) {ty:TypeId} (F:o.op= .field ty x i) (h:tP C T tm o.dst ty x i k dflt):(∃z,LA P C o z ⟨tm,bx,tk⟩∧k z)∨dflt:=by
 unfold tP at h
 split at h
 ·rename_i fl e
  split at h
  ·rename_i off sz I v
   split at h
   ·rename_i us H
    cases I with
    |true=>
     have h:=Gg h
     rcases Ip h with⟨t,g,s,q⟩|h
     ·exact .inl ⟨_,EC F g s (E.fd e v) (Fw H) rfl,q⟩
     ·exact .inr h
    |false=>
     simp only[cond_false] at h
     split at h
     ·rename_i u J
      rcases Ip h with⟨t,g,s,q⟩|h
      ·exact .inl ⟨_,KA F g s (E.fd e v) (Fw H) J,q⟩
      ·exact .inr h
     ·exact .inr h
   ·exact .inr h
  ·exact .inr h
 ·exact .inr h
theorem LC (v:TabOk P T) {ty:TypeId} {ps:Array (Nat×Operand)} (H:o.op= .build ty ps) (h:tQ C T tm o.dst ty ps k dflt):(∃s,LA P C o s ⟨tm,bx,tk⟩∧k s)∨dflt:=by
 unfold tQ at h
 split at h
 ·rename_i d z sz F L e q
  rcases jC (bx:=bx) (tk:=tk) h with⟨us,E,h⟩|h
  ·split at h
   ·rename_i cs g
    rcases Ip (Gg h) with⟨t,I,J,k3⟩|h
    ·exact .inl ⟨_,KB H I J (v.ty e) (v.st q) rfl E g,k3⟩
    ·exact .inr h
   ·exact .inr h
  ·exact .inr h
 ·exact .inr h
theorem UX (H:TabOk P T) {st:TypeId} {ps:Array (Nat×Operand)} (M:o.op= .buildSlice st n ps) (h:KP C T tm o.dst st n ps k dflt):(∃F,LA P C o F ⟨tm,bx,tk⟩∧k F)∨dflt:=by
 unfold KP at h
 split at h
 ·rename_i t e V L O U v
  split at h
  ·rename_i d z sz J Q
   cases q:(Nat.blt t C.N&&Nat.ble (n*sz) 1000&&Nat.ble n 1000) with
   |true=>
    rw[q] at h
    simp only[Et] at q
    rcases jC (bx:=bx) (tk:=tk) h with⟨us,I,h⟩|h
    ·split at h
     ·rename_i cs s
      split at h
      ·rename_i ds E
       cases g:aD cs with
       |true=>
        rw[g] at h
        simp only[cond_true] at h
        obtain⟨κ,h⟩:=Ti h
        exact .inl ⟨_,UL M U (ltN q.1.1) (H.ty v) (H.ty Q) I s E g (leN q.1.2) (leN q.2),Gg h⟩
       |false=>rw[g] at h;exact .inr h
      ·exact .inr h
     ·exact .inr h
    ·exact .inr h
   |false=>rw[q] at h;exact .inr h
  ·exact .inr h
 ·exact .inr h
theorem UY (E:TabOk P T) {st:TypeId} (J:o.op= .indexAddr st x y) (h:KQ C T tm o.dst st x y k dflt):(∃v,LA P C o v ⟨tm,bx,tk⟩∧k v)∨dflt:=by
 unfold KQ at h
 split at h
 ·rename_i e z0 I L s
  split at h
  ·rename_i d z sz Q W
   cases q:Nat.blt 0 sz with
   |true=>
    rw[q] at h
    simp only[cond_true] at h
    split at h
    ·rename_i ux ik j O U
     split at h
     ·rename_i Z n cs g
      obtain⟨i,ds,V,H,F,h⟩:=h.h
      rcases Ip h with⟨t,M,Y,k3⟩|h
      ·exact .inl ⟨_,cq J M Y (E.ty s).u (E.ty W) (Fw O) g (Fw U) V H (ltN q) F,k3⟩
      ·exact .inr h
     ·exact .inr h
    ·exact .inr h
   |false=>rw[q] at h;exact .inr h
  ·exact .inr h
 ·exact .inr h
theorem de (v:TabOk P T) {st:TypeId} (z:o.op= .index st x y) (h:d6 C T tm o.dst st x y k dflt):(∃g,LA P C o g ⟨tm,bx,tk⟩∧k g)∨dflt:=by
 unfold d6 at h
 split at h
 ·rename_i e
  split at h
  ·rename_i l J j I q
   obtain⟨i,b,F,s,h⟩:=h.h
   rcases Ip h with⟨t,E,H,k3⟩|h
   ·exact .inl ⟨_,UM z E H (v.ty e).u (Fw I) (Fw q) F s,k3⟩
   ·exact .inr h
  ·exact .inr h
 ·exact .inr h
theorem Vy {x:Option Operand} {K:Int→Prop} (h:tR tm x d K dflt):(∃z,(∀n:Nat,z=(n:Int)→Bnd ⟨tm,bx,tk⟩ x d n)∧K z)∨dflt:=by
 unfold tR at h
 grind [Bnd,Fw]
theorem LD (V:TabOk P T) {st:TypeId} {ol Z v:Option Operand} (s:o.op= .slice st x ol Z v) (h:tS C T tm o.dst st x ol Z v k dflt):(∃it,LA P C o it ⟨tm,bx,tk⟩∧k it)∨dflt:=by
 unfold tS at h
 split at h
 ·rename_i e z0 sz0 by0 q
  split at h
  ·rename_i d z sz by' he
   split at h
   ·rename_i ux O
    split at h
    ·rename_i tg n cs H
     split at h
     ·exact .inr h
     ·rename_i E
      rcases Vy (bx:=bx) (tk:=tk) h with⟨lo,I,h⟩|h
      ·rcases Vy (bx:=bx) (tk:=tk) h with⟨hi,U,h⟩|h
       ·rcases Vy (bx:=bx) (tk:=tk) h with⟨mx,b3,h⟩|h
        ·obtain⟨l',h',m',r,ds,W,J,e3,Q,L,e6,rfl,F,h⟩:=h.h
         rcases Ip h with⟨t,M,Y,k3⟩|h
         ·refine .inl ⟨_,KC s M Y (V.ty q).u (V.ty he) (Fw O) H (I _ W) (U _ J) (b3 _ e3) (fun hn=> ?_) Q L e6 F,k3⟩
          cases v with
          |none=>rfl
          |some m=>exact Bg rfl (E m hn)
         ·exact .inr h
        ·exact .inr h
       ·exact .inr h
      ·exact .inr h
    ·exact .inr h
   ·exact .inr h
  ·exact .inr h
 ·rename_i q
  split at h
  ·rename_i l O
   rcases Vy (bx:=bx) (tk:=tk) h with⟨lo,I,h⟩|h
   ·rcases Vy (bx:=bx) (tk:=tk) h with⟨hi,U,h⟩|h
    ·obtain⟨l',h',r,W,J,Q,L,F,h⟩:=h.h
     rcases Ip h with⟨t,M,Y,k3⟩|h
     ·exact .inl ⟨⟨[],some (t,.d (.v (.string ⟨r.toArray⟩))),none,none,[],[],[],[]⟩,fun _ g _ _=>mK s M Y (V.ty q).u (tr g (by rw[s];simp[Op.operands]) (Fw O)) (trB g (fun y e=>by rw[s,e];simp[Op.operands]) (I _ W)) (trB g (fun y e=>by rw[s,e];simp[Op.operands]) (U _ J)) Q L F,k3⟩
     ·exact .inr h
    ·exact .inr h
   ·exact .inr h
  ·exact .inr h
 ·exact .inr h
theorem jH (h:KR C T dst r k dflt):(∃t κ,dst=some t∧t<C.N∧k ⟨[],some (t,r.ren κ),none,r.tok.map fun x=>(κ,x),[κ],[],[],[]⟩)∨dflt:=by
 unfold KR at h
 split at h
 ·rename_i t
  cases e:Nat.blt t C.N with
  |true=>
   rw[e] at h
   simp only[cond_true] at h
   obtain⟨κ,h⟩:=Ti h
   refine .inl ⟨t,κ,rfl,ltN e,?_⟩
   cases r with
   |own=>exact h
   |tup us=>
    cases us with
    |nil=>exact h
    |cons u r=>cases u<;>exact h
   |d=>exact h
   |ptr=>exact h
   |agg=>exact h
   |sem=>exact h
   |cl=>exact h
   |pk=>exact h
  |false=>rw[e] at h;exact .inr h
 ·exact .inr h
theorem UZ (V:TabOk P T) {c:Call} (I:o.op= .call c) (h:KT P C T tm o.dst c k dflt):(∃U,LA P C o U ⟨tm,bx,tk⟩∧k U)∨dflt:=by
 unfold KT at h
 split at h
 ·rename_i f args ats
  cases g:Jo f T.mu with
  |true=>rw[g] at h;exact .inr h
  |false=>
  rw[g] at h
  rcases Th (bx:=bx) (tk:=tk) h with⟨us,H,h⟩|h
  ·cases q:Fb us with
   |true=>
    rw[q] at h
    obtain⟨r,J,h⟩:=h.h
    rcases jH h with⟨t,κ,v,E,k3⟩|h
    ·exact .inl ⟨_,UO I v E H q rfl J,k3⟩
    ·exact .inr h
   |false=>rw[q] at h;exact .inr h
  ·exact .inr h
 ·rename_i s args ats
  split at h
  ·rename_i f Q O
   cases g:Jo f T.mu with
   |true=>rw[g] at h;exact .inr h
   |false=>
   rw[g] at h
   rcases Th (bx:=bx) (tk:=tk) h with⟨us,H,h⟩|h
   ·cases q:Fb us with
    |true=>
     rw[q] at h
     obtain⟨r,J,h⟩:=h.h
     rcases jH h with⟨t,κ,v,E,k3⟩|h
     ·exact .inl ⟨_,KD I v E (Fw O) H q rfl J,k3⟩
     ·exact .inr h
    |false=>rw[q] at h;exact .inr h
   ·exact .inr h
  ·rename_i f fs cs O
   cases g:Jo f T.mu with
   |true=>rw[g] at h;exact .inr h
   |false=>
   rw[g] at h
   rcases Th (bx:=bx) (tk:=tk) h with⟨us,H,h⟩|h
   ·cases q:(Fb fs&&Fb us&&Fb cs) with
    |true=>
     rw[q] at h
     obtain⟨r,J,h⟩:=h.h
     rcases jH h with⟨t,κ,v,E,k3⟩|h
     ·exact .inl ⟨_,KH I v E (Fw O) H q rfl J,k3⟩
     ·exact .inr h
    |false=>rw[q] at h;exact .inr h
   ·exact .inr h
  ·exact .inr h
 ·rename_i x st
  split at h
  ·rename_i l F M
   rcases Ip h with⟨t,v,E,k3⟩|h
   ·exact .inl ⟨_,UN I v E (V.ty F).u (Fw M),k3⟩
   ·exact .inr h
  ·rename_i e z0 W Y ux F M
   split at h
   ·rename_i d z sz Z he
    split at h
    ·rename_i tg n cs L
     rcases Ip h with⟨t,v,E,k3⟩|h
     ·exact .inl ⟨_,ct I v E (V.ty F).u (Fw M) L,k3⟩
     ·exact .inr h
    ·exact .inr h
   ·exact .inr h
  ·exact .inr h
 ·exact .inr h
theorem VA {first e:Array Operand} (s:o.op= .makeFunc (.func f) first e) (h:KU C tm o.dst f first e k dflt):(∃g,LA P C o g ⟨tm,bx,tk⟩∧k g)∨dflt:=by
 unfold KU at h
 rcases Th (bx:=bx) (tk:=tk) h with⟨fs,q,h⟩|h
 ·rcases Th (bx:=bx) (tk:=tk) h with⟨cs,v,h⟩|h
  all_goals grind [Ip,mT]
 ·exact .inr h
theorem xS (g:TabOk P T) (h:EF P C T o tm bx k dflt):(∃F,LA P C o F ⟨tm,bx,tk⟩∧k F)∨dflt:=by
 unfold EF at h
 split at h
 ·rename_i x e
  rcases jF (bx:=bx) (tk:=tk) h with⟨t,u,q,z,s,v⟩|h
  all_goals grind [UI]
 ·rename_i x e
  rcases jF (bx:=bx) (tk:=tk) h with⟨t,u,q,z,s,v⟩|h
  all_goals grind [EA]
 ·rename_i c x y e
  split at h
  ·rename_i b H
   cases E:b with
   |true=>
    rcases jF (bx:=bx) (tk:=tk) (h.t E) with⟨t,u,q,z,s,v⟩|h
    ·exact .inl ⟨_,xP (b:=true) e q z (Fw H) E s,v⟩
    ·exact .inr h
   |false=>
    rcases jF (bx:=bx) (tk:=tk) (h.f E) with⟨t,u,q,z,s,v⟩|h
    ·exact .inl ⟨_,xP (b:=false) e q z (Fw H) E s,v⟩
    ·exact .inr h
  ·exact .inr h
 ·rename_i e;exact da g e h
 ·rename_i e;exact dc e h
 ·rename_i e;exact UV g e h
 ·rename_i e;exact tX e h
 ·rename_i e;exact UW g e h
 ·rename_i e;exact KY g e h
 ·rename_i e;exact KZ g e h
 ·rename_i e;exact dd g e h
 ·rename_i e;exact jG g e h
 ·rename_i e;exact LB g e h
 ·rename_i e;exact LC g e h
 ·rename_i e;exact UX g e h
 ·rename_i e;exact UY g e h
 ·rename_i e;exact de g e h
 ·rename_i e;exact LD g e h
 ·rename_i e;exact UZ g e h
 ·rename_i e;exact VA e h
 ·exact .inr h
end
section
variable {P:Program} {C:Cx} {T:Tab} {o:Oper} {tm:TM} {bx:BX} {tk:TK} {k:It→Prop} {dflt:Prop}
def EG (P:Program) (C:Cx) (o:Oper) (tm:TM) (bx:BX) (tk:TK) (K:KS):Prop:=∃S,J3 P C o ⟨tm,bx,tk⟩ S∧∀σ',S σ'→K σ'.tm σ'.bx σ'.tk
theorem Zl {σ':AS} (h:Fp P C o ⟨tm,bx,tk⟩ σ') (e:K σ'.tm σ'.bx σ'.tk):EG P C o tm bx tk K:=
 ⟨fun x=>x=σ',fun a w q K Q e=>h a w q K Q fun g w' s=>e _ g w' rfl s,fun x v=>by subst v;exact e⟩
theorem jl (I:TabOk P T) (h:US C T o tm bx tk K dflt):EG P C o tm bx tk K∨dflt:=by
 unfold US at h
 split at h
 ·rename_i s x st J t Y Z
  split at h
  ·rename_i e z0 sz0 by0 F
   split at h
   ·rename_i d z sz M he
    cases H:(Nat.blt t C.N&&Nat.beq st J&&Nat.beq z.cells.toList.length sz&&Nat.blt 0 sz&&Nat.ble M 1000) with
    |true=>
     rw[H] at h
     simp only[cond_true] at h
     simp only[Et] at H
     obtain⟨⟨⟨⟨c1,c2⟩,c3⟩,V⟩,W⟩:=H
     obtain rfl:=Aw c2
     have hz:z.cells.size=sz:=Aw c3
     split at h
     ·rename_i kk n O e' cs ux U L
      split at h
      ·rename_i n' E Q m ds hk v
       cases g:(Nat.beq O sz&&Nat.beq E sz&&Nat.beq e' e&&Nat.beq Q e) with
       |true=>
        rw[g] at h
        simp only[cond_true] at h
        simp only[Et] at g
        obtain⟨⟨⟨d1,d2⟩,d3⟩,d4⟩:=g
        obtain rfl:=Aw d1
        obtain rfl:=Aw d2
        obtain rfl:=Aw d3
        obtain rfl:=Aw d4
        obtain⟨rfl,q,_,_,rfl,rfl,h⟩:=h.h
        exact .inl (Zl (Ym Y Z (ltN c1) (Fw U) hk (Fw L) v (I.ty F).u (I.ty he) hz (ltN V) q (leN W)) (UR (P3 h)))
       |false=>rw[g] at h;exact .inr h
      ·exact .inr h
     ·rename_i ux U L
      split at h
      ·rename_i m ds v
       obtain⟨κ,h⟩:=Ti h
       cases g:(clT κ tm&&clB κ bx) with
       |true=>
        rw[g] at h
        obtain⟨-,q,_,_,rfl,rfl,h⟩:=h.h
        rw[A0] at q h
        exact .inl (Zl (Ru Y Z (ltN c1) (Fw U) g (Fw L) v (I.ty F).u (I.ty he) hz (ltN V) q (leN W)) h)
       |false=>rw[g] at h;exact .inr h
      ·exact .inr h
     ·exact .inr h
    |false=>rw[H] at h;exact .inr h
   ·exact .inr h
  ·exact .inr h
 ·exact .inr h
theorem VB (I:TabOk P T) {k:It→Prop} (h:jE C T o tm bx tk k dflt):(∃it,LA P C o it ⟨tm,bx,tk⟩∧k it)∨dflt:=by
 unfold jE at h
 split at h
 ·rename_i s x st J t Y Z
  split at h
  ·rename_i e z0 sz0 by0 F
   split at h
   ·rename_i d z sz M he
    cases H:(Nat.blt t C.N&&Nat.beq st J&&Nat.beq z.cells.toList.length sz&&Nat.blt 0 sz&&Nat.ble M 1000) with
    |true=>
     rw[H] at h
     simp only[cond_true] at h
     simp only[Et] at H
     obtain⟨⟨⟨⟨c1,c2⟩,c3⟩,V⟩,W⟩:=H
     obtain rfl:=Aw c2
     have hz:z.cells.size=sz:=Aw c3
     split at h
     ·rename_i kk n O e' cs ux U L
      split at h
      ·rename_i n' E Q m ds hk v
       cases q:(Nat.beq O sz&&Nat.beq E sz&&Nat.beq e' e&&Nat.beq Q e) with
       |true=>
        rw[q] at h
        simp only[cond_true] at h
        simp only[Et] at q
        obtain⟨⟨⟨d1,d2⟩,d3⟩,d4⟩:=q
        obtain rfl:=Aw d1
        obtain rfl:=Aw d2
        obtain rfl:=Aw d3
        obtain rfl:=Aw d4
        obtain⟨rfl,g,_,_,rfl,rfl,h⟩:=h.h
        exact .inl ⟨_,ED Y Z (ltN c1) (Fw U) hk (Fw L) v (I.ty F).u (I.ty he) hz (ltN V) g (leN W),Gg (Gg h)⟩
       |false=>rw[q] at h;exact .inr h
      ·exact .inr h
     ·rename_i ux U L
      split at h
      ·rename_i m ds v
       obtain⟨κ,h⟩:=Ti h
       obtain⟨-,g,_,_,rfl,rfl,h⟩:=h.h
       rw[A0] at g h
       exact .inl ⟨_,eK Y Z (ltN c1) (Fw U) (Fw L) v (I.ty F).u (I.ty he) hz (ltN V) g (leN W),h⟩
      ·exact .inr h
     ·exact .inr h
    |false=>rw[H] at h;exact .inr h
   ·exact .inr h
  ·exact .inr h
 ·exact .inr h
theorem LE {tm':TM} {e:BX} (s:Ent ⟨tm,bx,tk⟩ ⟨tm',e,tk⟩) (h:EG P C o tm' e tk K):EG P C o tm bx tk K:=by
 obtain⟨S,g,v⟩:=h
 exact⟨S,fun a w q=>g a w (s C a w q),v⟩
theorem tY:∀{l:List Operand} {tm:TM} {bx:BX} {K:TM→BX→Prop},fzL l tm bx K→∃tm' g,Ent ⟨tm,bx,tk⟩ ⟨tm',g,tk⟩∧K tm' g
 |[],tm,bx,K,h=>⟨tm,bx,fun _ _ _ h=>h,h⟩
 |x::r,tm,bx,K,h=>by
  have q:(match evT tm x with
   |some (.ptr k _)=>(match lk k bx with
    |some cs=>(match Nv cs with
     |some ds=>G9 ds (fun ds=>nA k ds tm (fun tm'=>G9 (frB k ds bx) (fun g=>fzL r tm' g K)))
     |none=>False)
    |none=>False)
   |_=>fzL r tm bx K):=h
  clear h
  split at q
  ·rename_i k off F
   split at q
   ·rename_i cs s
    split at q
    ·rename_i ds v
     obtain⟨tm',g,e,z⟩:=tY (Gg (M8 (Gg q)))
     exact⟨tm',g,fun C a w E=>e C a w (UP (σ:=⟨tm,bx,tk⟩) s v C a w E),z⟩
    ·exact q.elim
   ·exact q.elim
  ·exact tY q
theorem VC {K:TM→BX→Prop} (h:d8 T o tm bx K):∃tm' g,Ent ⟨tm,bx,tk⟩ ⟨tm',g,tk⟩∧K tm' g:=by
 unfold d8 at h
 split at h
 ·rename_i f fs e s
  cases q:Jo f T.mu with
  |true=>rw[q] at h;exact⟨tm,bx,fun _ _ _ h=>h,h⟩
  |false=>rw[q] at h;exact tY h
 ·exact⟨tm,bx,fun _ _ _ h=>h,h⟩
theorem dg (q:TabOk P T) (h:EF P C T o tm bx (fun e=>bif mY e.cr tm bx&&mZ e.ex e tm bx then jD e tm bx tk K else False) (US C T o tm bx tk K (NStep P C o tm bx tk K))):EG P C o tm bx tk K:=by
 rcases xS (tk:=tk) q h with⟨e,s,h⟩|h
 ·cases g:(mY e.cr tm bx&&mZ e.ex e tm bx) with
  |true=>
   rw[g] at h
   rw[Et] at g
   exact Zl (s _ (fun _ _=>rfl) (KX g.2) (KW g.1)) (Zk h)
  |false=>rw[g] at h;exact h.elim
 ·rcases jl q h with h|h
  ·exact h
  ·exact h.h
theorem VD (g:TabOk P T) (h:tU P C T o tm bx tk K):EG P C o tm bx tk K:=by
 unfold tU at h
 obtain⟨tm',q,e,h⟩:=VC (tk:=tk) h
 exact LE e (dg g h)
theorem Sm (V:TabOk P T) {ops:Array Oper} {Φ:Exit→AS→Prop} {K:KS} (U:∀tm bx tk,K tm bx tk→Φ .normal ⟨tm,bx,tk⟩):∀{l:List Oper} {tm:TM} {bx:BX} {tk:TK},L6 P C T ops.toList l tm bx tk K→P1 P C ops Φ l ⟨tm,bx,tk⟩
 |[],tm,bx,tk,h=>JI (U _ _ _ h)
 |o::r,tm,bx,tk,h=>by
  have e:d9 ops.toList o tm (fun tm=>tU P C T o tm bx tk (fun tm bx tk=>L6 P C T ops.toList r tm bx tk K))
   (fun tm=>match o.dst with
     |some s=>bif Nat.blt s C.N then L6 P C T ops.toList r ((s,.d (.v undef))::tm) bx tk K else False
     |none=>L6 P C T ops.toList r tm bx tk K):=h
  clear h
  unfold d9 at e
  have M:∀tm,tU P C T o tm bx tk (fun tm bx tk=>L6 P C T ops.toList r tm bx tk K)→∃S,J3 P C o ⟨tm,bx,tk⟩ S∧∀σ',S σ'→P1 P C ops Φ r σ':=fun tm h=>by
   obtain⟨S,L,Q⟩:=VD V h
   exact⟨S,L,fun σ' J=>Sm V U (Q σ' J)⟩
  split at e
  ·rename_i I
   obtain⟨S,L,Q⟩:=M tm e
   exact sT I L Q
  ·rename_i j b I
   split at e
   ·rename_i oj hj
    split at e
    ·rename_i s J
     split at e
     ·rename_i c hc
      have v:ops[j]?=some oj:=by rw[←Cg];exact hj
      cases g:Nat.blt s 1000000 with
      |false=>rw[g] at e;exact e.elim
      |true=>
      rw[g] at e
      simp only[cond_true] at e
      have F:=Xi g
      have H:∀(c':Bool),c=c'→(bif c' then(bif b then(fun tm=>tU P C T o tm bx tk (fun tm bx tk=>L6 P C T ops.toList r tm bx tk K)) else(fun tm=>match o.dst with
       |some s=>bif Nat.blt s C.N then L6 P C T ops.toList r ((s,.d (.v undef))::tm) bx tk K else False
       |none=>L6 P C T ops.toList r tm bx tk K)) ((s,.d (.v (.bool true)))::tm) else(bif b then(fun tm=>match o.dst with
       |some s=>bif Nat.blt s C.N then L6 P C T ops.toList r ((s,.d (.v undef))::tm) bx tk K else False
       |none=>L6 P C T ops.toList r tm bx tk K) else(fun tm=>tU P C T o tm bx tk (fun tm bx tk=>L6 P C T ops.toList r tm bx tk K))) ((s,.d (.v (.bool false)))::tm))→P1 P C ops Φ (o::r) ⟨tm,bx,tk⟩:=by
       intro c' E h
       refine sY (t:=s) (d:=c') hc E ?_
       have Z:lk s (AS.put ⟨tm,bx,tk⟩ s (.d (.v (.bool c')))).tm=some (.d (.v (.bool c'))):=F1 _ _ _
       have skip:∀b',c'= !b'→o.guard=some (j,b')→(match o.dst with
        |some q=>bif Nat.blt q C.N then L6 P C T ops.toList r ((q,.d (.v undef))::(s,.d (.v (.bool c')))::tm) bx tk K else False
        |none=>L6 P C T ops.toList r ((s,.d (.v (.bool c')))::tm) bx tk K)→P1 P C ops Φ (o::r) (AS.put ⟨tm,bx,tk⟩ s (.d (.v (.bool c')))):=by
        intro b' W Y h
        split at h
        ·rename_i q O
         cases z:Nat.blt q C.N with
         |true=>rw[z] at h;exact DH Y v J Z F W O (ltN z) (Sm V U h)
         |false=>rw[z] at h;exact h.elim
        ·rename_i O
         exact sK Y v J Z F W O (Sm V U h)
       cases c' with
       |true=>
        cases b with
        |true=>obtain⟨S,L,Q⟩:=M _ h;exact Yn I v J Z F L Q
        |false=>exact skip false rfl I h
       |false=>
        cases b with
        |true=>exact skip true rfl I h
        |false=>obtain⟨S,L,Q⟩:=M _ h;exact Yn I v J Z F L Q
      cases E:c with
      |true=>exact H true E (e.t E)
      |false=>exact H false E (e.f E)
     ·rename_i x hx
      have v:ops[j]?=some oj:=by rw[←Cg];exact hj
      cases g:Nat.blt s 1000000 with
      |false=>rw[g] at e;exact e.elim
      |true=>
       rw[g] at e
       simp only[cond_true] at e
       split at e
       ·rename_i q O
        cases z:Nat.blt q C.N with
        |true=>rw[z] at e;exact sL (σ:=⟨tm,bx,tk⟩) I v J hx (Xi g) O (ltN z) (Sm V U e)
        |false=>rw[z] at e;exact e.elim
       ·rename_i O
        exact mE (σ:=⟨tm,bx,tk⟩) I v J hx (Xi g) O (Sm V U e)
     ·exact e.elim
    ·exact e.elim
   ·exact e.elim
def DrR (P:Program) (C:Cx) (ops:Array Oper) (l:List Oper) (σ:AS) (K:List It→KS) (KL:List It→Oper→KS):Prop:=
 (∃its,Scr P C ops l its σ∧K its (σ.addAll its).tm (σ.addAll its).bx (σ.addAll its).tk)∨∃l' o1 its,l=l'++[o1]∧Scr P C ops l' its σ∧KL its o1 (σ.addAll its).tm (σ.addAll its).bx (σ.addAll its).tk
theorem DrR.cons {ops:Array Oper} {r:List Oper} {σ:AS} {g:It} {K:List It→KS} {KL:List It→Oper→KS} (h:Ui P C ops o g σ) (k:DrR P C ops r (σ.add g) (fun e=>K (g::e)) (fun e=>KL (g::e))):DrR P C ops (o::r) σ K KL:=by
 rcases k with⟨e,q,s⟩|⟨z,v,e,rfl,q,s⟩
 ·exact .inl ⟨g::e,.cons h q,s⟩
 ·exact .inr ⟨o::z,v,g::e,rfl,.cons h q,s⟩
theorem Yp (M:TabOk P T) {ops:Array Oper}:∀{l:List Oper} {tm:TM} {bx:BX} {tk:TK} {K:List It→KS} {KL:List It→Oper→KS},nB P C T ops.toList l tm bx tk K KL→DrR P C ops l ⟨tm,bx,tk⟩ K KL
 |[],tm,bx,tk,K,KL,h=> .inl ⟨[],.nil,h⟩
 |o::r,tm,bx,tk,K,KL,h=>by
  obtain⟨J,O⟩:∃p,p=EF P C T o tm bx (fun z=>jD z tm bx tk (fun tm bx tk=>nB P C T ops.toList r tm bx tk (fun g=>K (z::g)) (fun g=>KL (z::g)))) (match r with
   |[]=>KL [] o tm bx tk
   |_::_=>jE C T o tm bx tk (fun z=>jD z tm bx tk (fun tm bx tk=>nB P C T ops.toList r tm bx tk (fun g=>K (z::g)) (fun g=>KL (z::g)))) (NLa P C o tm bx tk (fun z=>jD z tm bx tk (fun tm bx tk=>nB P C T ops.toList r tm bx tk (fun g=>K (z::g)) (fun g=>KL (z::g)))))):=⟨_,rfl⟩
  obtain⟨skip,F⟩:∃p,p=(match o.dst with
   |some s=>bif Nat.blt s C.N then nB P C T ops.toList r ((s,.d (.v undef))::tm) bx tk (fun g=>K (⟨[],some (s,.d (.v undef)),none,none,[],[],[],[]⟩::g)) (fun g=>KL (⟨[],some (s,.d (.v undef)),none,none,[],[],[],[]⟩::g)) else False
   |none=>nB P C T ops.toList r tm bx tk (fun g=>K (⟨[],none,none,none,[],[],[],[]⟩::g)) (fun g=>KL (⟨[],none,none,none,[],[],[],[]⟩::g))):=⟨_,rfl⟩
  have v:(match o.guard with
   |none=>J
   |some (j,b)=>(match ops.toList[j]? with
    |some oj=>(match oj.dst with
     |some s=>(match lk s tm with
      |some (.d (.v (.bool c)))=>bif Nat.blt s 1000000 then NBr c (bif b then J else skip) (bif b then skip else J) else False
      |some (.d (.v (.tuple _)))=>bif Nat.blt s 1000000 then skip else False
      |_=>False)
     |none=>False)
    |none=>False)):=by rw[O,F];exact h
  clear h
  have hr:J→(∃z,LA P C o z ⟨tm,bx,tk⟩∧DrR P C ops r (AS.add ⟨tm,bx,tk⟩ z) (fun g=>K (z::g)) (fun g=>KL (z::g)))∨(r=[]∧KL [] o tm bx tk):=fun h=>by
   rw[O] at h
   rcases xS (tk:=tk) M h with⟨z,L,h⟩|h
   ·exact .inl ⟨z,L,Yp M (Zk h)⟩
   ·split at h
    ·exact .inr ⟨rfl,h⟩
    ·rcases VB M h with⟨z,L,h⟩|h
     ·exact .inl ⟨z,L,Yp M (Zk h)⟩
     ·obtain⟨z,L,h⟩:=h.h
      exact .inl ⟨z,L,Yp M (Zk h)⟩
  have Z:r=[]∧KL [] o tm bx tk→DrR P C ops (o::r) ⟨tm,bx,tk⟩ K KL:=fun⟨e,h⟩=>by
   subst e
   exact .inr ⟨[],o,[],rfl,.nil,h⟩
  split at v
  ·rename_i U
   rcases hr v with⟨z,L,V⟩|V
   ·exact .cons (DU U L) V
   ·exact Z V
  ·rename_i j b U
   split at v
   ·rename_i oj hj
    split at v
    ·rename_i s hs
     split at v
     ·rename_i c hc
      have I:ops[j]?=some oj:=by rw[←Cg];exact hj
      cases E:Nat.blt s 1000000 with
      |false=>rw[E] at v;exact v.elim
      |true=>
      rw[E] at v
      simp only[cond_true] at v
      have W:=Xi E
      have hrn:c=b→J→DrR P C ops (o::r) ⟨tm,bx,tk⟩ K KL:=fun e h=>by
       rcases hr h with⟨z,L,V⟩|V
       ·exact .cons (tF U I hs hc W e L) V
       ·exact Z V
      have hsk:c= !b→skip→DrR P C ops (o::r) ⟨tm,bx,tk⟩ K KL:=fun e h=>by
       rw[F] at h
       split at h
       ·rename_i q Q
        cases H:Nat.blt q C.N with
        |true=>
         rw[H] at h
         exact .cons (JU U I hs hc W e Q (ltN H)) (Yp M h)
        |false=>rw[H] at h;exact h.elim
       ·rename_i Q
        exact .cons (DW U I hs hc W e Q) (Yp M h)
      cases Y:c with
      |true=>
       have h:=v.t Y
       grind
      |false=>
       have h:=v.f Y
       grind
     ·rename_i x hx
      have I:ops[j]?=some oj:=by rw[←Cg];exact hj
      cases E:Nat.blt s 1000000 with
      |false=>rw[E] at v;exact v.elim
      |true=>
       rw[E] at v
       simp only[cond_true] at v
       rw[F] at v
       split at v
       ·rename_i q Q
        cases H:Nat.blt q C.N with
        |true=>
         rw[H] at v
         exact .cons (DX U I hs hx (Xi E) Q (ltN H)) (Yp M v)
        |false=>rw[H] at v;exact v.elim
       ·rename_i Q
        exact .cons (tB U I hs hx (Xi E) Q) (Yp M v)
     ·exact v.elim
    ·exact v.elim
   ·exact v.elim
theorem jI (h:evT tm (.tmp t)=some u):Nat.blt t 1000000=true∧lk t tm=some u:=by
 have e:(bif Nat.blt t 1000000 then lk t tm else none)=some u:=h
 grind
theorem VE {c:Operand} {x y:Code} {Φ:Exit→AS→Prop} {a b:TM→Prop} (g:∀tm,a tm→G3 P C x Φ ⟨tm,bx,tk⟩) (s:∀tm,b tm→G3 P C y Φ ⟨tm,bx,tk⟩) (h:tV tm c a b):G3 P C (.cond c x y) Φ ⟨tm,bx,tk⟩:=by
 unfold tV at h
 split at h
 ·rename_i t
  split at h
  ·rename_i v z
   have q:=(jI z).2
   refine aH (c:= .tmp t) (Fw z) (fun e=> ?_) (fun e=> ?_)
   ·exact Yo (t:=t) (d:=true) q e (g _ (h.t e))
   ·exact Yo (t:=t) (d:=false) q e (s _ (h.f e))
  ·exact h.elim
 ·exact aH (c:= .const (.bool _)) rfl (fun e=>g _ (h.t e)) (fun e=>s _ (h.f e))
 ·exact h.elim
theorem Ent.refl (σ:AS):Ent σ σ:=fun _ _ _ h=>h
theorem nD {Φ:Exit→AS→Prop} (I:Nat→AS→Prop) (n:Nat) (H:∃σ',Ent σ σ'∧I n σ') (g:∀n σ,I n σ→G3 P C c (nx (fun σ'=>∃m,m<n∧∃e,Ent σ' e∧I m e) Φ) σ):G3 P C (.loop c) Φ σ:=by
 obtain⟨σ',F,s⟩:=H
 have h:=sX (fun m σ=>∃e,Ent σ e∧I m e) n ⟨σ',Ent.refl _,s⟩ fun n σ s=>by
  obtain⟨v,q,z⟩:=s
  exact fun a w E=>g n v z a w (q C a w E)
 exact fun a w E=>h a w (F C a w E)
theorem Tj (Y:TabOk P T) (hm:P.follows .mixedOrders=true) (c:Code):∀(q:KS) (s:Nat→KS) (v:KS) (tm:TM) (bx:BX) (tk:TK),Ki P C T c q s v tm bx tk→G3 P C c (tK q s v) ⟨tm,bx,tk⟩:=by
 induction c with
 |skip=>intro q s v tm bx tk h;exact sV h
 |region id ops O=>
  intro q s v tm bx tk h
  cases O with
  |true=>
   cases V:Jo (id+1000000) T.mu with
   |true=>
    have h:(bif Jo (id+1000000) T.mu then NCode P C (.region id ops true) tm bx tk q s v else _):=h
    rw[V] at h
    exact NCode.h h
   |false=>
   have h:(bif Jo (id+1000000) T.mu then _ else nB P C T ops.toList ops.toList tm bx tk _ _):=h
   rw[V] at h
   rcases Yp (ops:=ops) (K:=fun z tm' H I=>NFact (Nu ops=true∧Xo ops.toList z ⟨tm,bx,tk⟩=true) (q tm' H I)) (KL:=fun z o tm' H I=>NFact (Nu ops=true∧Zj ops.toList.dropLast o z ⟨tm,bx,tk⟩=true) (L6 P C T ops.toList [o] tm' H I q)) Y h with⟨z,Q,M⟩|⟨l',o1,z,hl,Q,M⟩
   ·exact tE (l:=ops.toList) hm M.h.1 Q M.h.2 M.k
   ·have hd:ops.toList.dropLast=l':=by rw[hl];simp
    obtain⟨⟨k1,k2⟩,k3⟩:=M
    rw[hd] at k2
    have g:ops=(l'++[o1]).toArray:=by rw[←hl]
    subst g
    exact mU hm k1 Q k2 (Sm (Φ:=tK q s v) (K:=q) Y (fun _ _ _ h=>h) k3)
  |false=>exact iX (l:=ops.toList) (Sm (ops:=ops) (Φ:=tK q s v) (K:=q) Y (fun _ _ _ h=>h) h)
 |seq x y J L=>
  intro q s v tm bx tk h
  refine DP (I7 (J _ _ _ _ _ _ h) fun e σ g=> ?_)
  cases e with
  |normal=>exact L _ _ _ _ _ _ g
  |exit id=>exact g
  |ret=>exact g
  |goto l=>exact g.elim
  |panic c=>exact g.elim
  |_=>first|exact g.elim|exact g
 |cond c x y J L=>
  intro q s v tm bx tk h
  exact VE (fun tm h=>J _ _ _ _ _ _ h) (fun tm h=>L _ _ _ _ _ _ h) h
 |block id c U=>
  intro q s v tm bx tk h
  refine mO (I7 (U _ _ _ _ _ _ h) fun e σ g=> ?_)
  cases e with
  |normal=>exact g
  |exit F=>
   simp only[inB]
   have E:(bif Nat.beq F id then q else s F) σ.tm σ.bx σ.tk:=g
   cases V:Nat.beq F id with
   |true=>rw[V] at E;exact E
   |false=>rw[V] at E;exact E
  |ret=>exact g
  |goto l=>exact g.elim
  |panic c=>exact g.elim
  |_=>first|exact g.elim|exact g
 |loop c U=>
  intro q s v tm bx tk h
  obtain⟨α,Z,ms,st,W,a0,hW,h0,w0,hr⟩:=NLoop.h h
  refine nD (fun m σ=>∃a,Z a∧m=ms a∧σ=st a) (ms a0) ⟨_,w0,a0,h0,rfl,rfl⟩ ?_
  rintro m _ ⟨a,ha,rfl,rfl⟩
  refine I7 (U _ _ _ _ _ _ (hr a ha)) fun e σ g=> ?_
  cases e with
  |normal=>obtain⟨a',Q,M,h3⟩:=g;exact⟨_,M,_,hW _ _ h3,a',Q,rfl,rfl⟩
  |exit id=>exact g
  |ret=>exact g
  |goto l=>exact g.elim
  |panic c=>exact g.elim
  |_=>first|exact g.elim|exact g
 |rangeFunc f ps a b _ _=>intro q s v tm bx tk h;exact NCode.h h
 |exit id=>intro q s v tm bx tk h;exact sW h
 |scope c U=>
  intro q s v tm bx tk h
  refine mP (I7 (U _ _ _ _ _ _ h) fun e σ g=> ?_)
  cases e with
  |normal=>exact g
  |exit id=>exact g
  |ret=>exact g
  |goto l=>exact g.elim
  |panic c=>exact g.elim
  |_=>first|exact g.elim|exact g
 |label l=>intro q s v tm bx tk h;exact mN h
 |goto l=>intro q s v tm bx tk h;exact False.elim h
 |ret=>intro q s v tm bx tk h;exact DQ h
 |refuse w=>intro q s v tm bx tk h;exact False.elim h
theorem Us (E:TabOk P T):∀{Q:List ResultVar} {K:List AV→Prop},nC T tm bx Q K→∃us,Oo P ⟨tm,bx,tk⟩ Q us∧K us
 |[],K,h=>⟨[],trivial,h⟩
 | .tmp t::r,K,h=>by
   have e:(match evT tm (.tmp t) with
    |some u=>nC T tm bx r (fun us=>K (u::us))
    |none=>False):=h
   split at e
   ·rename_i u J
    obtain⟨us,g,H⟩:=Us E e
    exact⟨u::us,⟨jI J,g⟩,H⟩
   ·exact e.elim
 | .cell p ty::r,K,h=>by
   have e:(match evT tm (.tmp p),lk ty T.ty with
    |some (.ptr b off),some (d,_,sz,_)=>(match lk b bx with
     |some cs=>bif Om d then G9 ((cs.drop off).take sz) (fun s=>bif Nat.beq s.length sz then nC T tm bx r (fun us=>K (.agg s::us)) else False) else(match cs[off]? with
      |some u=>nC T tm bx r (fun us=>K (u::us))
      |none=>False)
     |none=>False)
    |_,_=>False):=h
   clear h
   split at e
   ·rename_i b off d z sz U M q
    obtain⟨v,O⟩:=jI M
    split at e
    ·rename_i cs F
     cases I:Om d with
     |true=>
      rw[I] at e
      have e:=Gg e
      cases L:Nat.beq ((cs.drop off).take sz).length sz with
      |true=>
       rw[L] at e
       obtain⟨us,g,H⟩:=Us E e
       exact⟨.agg ((cs.drop off).take sz)::us,⟨DS (σ:=⟨tm,bx,tk⟩) v O F (E.ty q) I rfl (Aw L),g⟩,H⟩
      |false=>rw[L] at e;exact e.elim
     |false=>
      rw[I] at e
      simp only[cond_false] at e
      split at e
      ·rename_i u J
       obtain⟨us,g,H⟩:=Us E e
       exact⟨u::us,⟨JS (σ:=⟨tm,bx,tk⟩) v O F (E.ty q) I J,g⟩,H⟩
      ·exact e.elim
    ·exact e.elim
   ·exact e.elim
theorem LF (q:TabOk P T) (h:tW T fn.results Φ tm bx tk):UC P fn Φ ⟨tm,bx,tk⟩:=by
 obtain⟨us,s,e⟩:=Us (tk:=tk) q h
 refine⟨us,s,?_⟩
 unfold jk at e
 unfold single
 split at e
 ·exact e.h
 ·rename_i g
  split
  ·exact Bg rfl (g _)
  ·exact e.h
theorem Fl {args:List AV} (N:Nat) (q:Array ResultVar) (z:TabOk P T) (M:P.follows .mixedOrders=true) (F:P.funcs[f]?=some fn) (J:fn.ntmps=N) (v:(fn.name== "runtime.NumGoroutine")=false) (H:fn.body=some c) (L:fn.results=q) (I:Nat.ble q.size 4=true) (E:(Nat.ble args.length N&&Nat.ble N 1000000)=true)
 (h:∀W fp0 s,Ki P ⟨W,fp0,N,fun _=>none,s⟩ T c (tW T q Φ) (fun _ _ _ _=>False) (tW T q Φ) (J4 0 args) [] []):Es P f args Φ:=by
 subst J L
 simp only[Et] at E
 refine DR F (P2 F v H) H (leN I) (leN E.1) (leN E.2) fun W fp0 s=>I7 (Tj z M c _ _ _ _ _ _ (h W fp0 s)) fun e σ g=> ?_
 cases e with
 |normal=>exact LF z g
 |exit id=>exact False.elim g
 |ret=>exact LF z g
 |goto l=>exact g.elim
 |panic c=>exact g.elim
 |_=>first|exact g.elim|exact g
noncomputable def nE (tm:TM) (K:TM→Prop):Prop:=
 @List.rec (Nat×AV) (fun _=>(TM→Prop)→Prop) (fun K=>K []) (fun p _ ih K=>match p with
  |(t,u)=>bif Nat.ble 1000000 t then ih (fun r=>K ((t-1000000,u)::r)) else ih K) tm K
theorem Vz:∀{tm:TM} {K:TM→Prop},nE tm K→K (Uk tm)
 |[],_,h=>h
 |(t,u)::r,K,h=>by
  have e:(bif Nat.ble 1000000 t then nE r (fun r=>K ((t-1000000,u)::r)) else nE r K):=h
  unfold Uk Uj
  cases g:Nat.ble 1000000 t with
  |true=>rw[g] at e;exact Vz e
  |false=>rw[g] at e;exact Vz e
noncomputable def jm (d:Option Nat) (u:AV) (tm:TM) (K:TM→Prop):Prop:=
 match d with
 |some t=>nE tm (fun r=>K ((t,u)::r))
 |none=>nE tm K
noncomputable def Ni (T:Tab) (rs:Array ResultVar) (d:Option Nat) (K:KS):KS:=fun tm bx tk=>nC T tm bx rs.toList (fun us=>jm d (single us) tm (fun tm=>K tm bx tk))
def Sn (d:Option Nat) (N:Nat):Bool:=match d with
 |some t=>Nat.blt t N
 |none=>true
theorem V1 (q:TabOk P T) {e:Array ResultVar} {d:Option Nat} (h:Ni T e d K tm bx tk):∃us,Oo P ⟨tm,bx,tk⟩ e.toList us∧K ((AS.mk tm bx tk).ret d (single us)).tm ((AS.mk tm bx tk).ret d (single us)).bx ((AS.mk tm bx tk).ret d (single us)).tk:=by
 obtain⟨us,g,s⟩:=Us (tk:=tk) q h
 refine⟨us,g,?_⟩
 unfold jm at s
 grind [AS.ret,Vz]
theorem nF (s:TabOk P T) (I:P.follows .mixedOrders=true) {d:Option Nat} (off:Nat) {W:World} {fp0 v:Nat→Nat→Prop} {z:Array ResultVar} (F:fn.results=z) (E:fn.ntmps=N)
 (h:∀q,G9 (inT us tm) (fun tm=>Ki P ⟨W,fp0,N,q,v⟩ ⟨T.ty,T.fd,T.st,T.mu,off⟩ c (Ni T z d K) (fun _ _ _ _=>False) (Ni T z d K) tm bx tk)):
 ∀q,G3 P ⟨W,fp0,fn.ntmps,q,v⟩ c (mV P fn.results.toList d (fun σ'=>K σ'.tm σ'.bx σ'.tk)) ⟨inT us tm,bx,tk⟩:=by
 subst F E
 intro q
 have H:=Gg (K:=fun tm=>Ki P ⟨W,fp0,fn.ntmps,q,v⟩ ⟨T.ty,T.fd,T.st,T.mu,off⟩ c (Ni T fn.results d K) (fun _ _ _ _=>False) (Ni T fn.results d K) tm bx tk) (h q)
 refine I7 (Tj (T:=⟨T.ty,T.fd,T.st,T.mu,off⟩) ⟨s.ty,s.fd,s.st⟩ I c _ _ _ _ _ _ H) fun e σ g=> ?_
 cases e with
 |normal=>exact V1 s g
 |exit id=>exact False.elim g
 |ret=>exact V1 s g
 |goto l=>exact g.elim
 |panic c=>exact g.elim
 |_=>first|exact g.elim|exact g
theorem NStep.inl (off N:Nat) (e:Array ResultVar) (Q:TabOk P T) (J:P.follows .mixedOrders=true) (H:o.op= .call {callee:= .value (.func f),args:=args,argTypes:=ats}) (q:Sn o.dst C.N=true)
 (O:evL ⟨tm,bx,tk⟩ args.toList=some us) (z:P.funcs[f]?=some fn) (g:fn.ntmps=N) (v:(fn.name== "runtime.NumGoroutine")=false) (F:fn.body=some c) (E:fn.results=e) (L:Nat.ble e.size 4=true) (s:(Nat.ble us.length N&&Nat.ble N 1000000)=true)
 (h:∀M,G9 (inT us tm) (fun tm=>Ki P ⟨C.W,C.fp0,N,M,C.z0⟩ ⟨T.ty,T.fd,T.st,T.mu,off⟩ c (Ni T e o.dst K) (fun _ _ _ _=>False) (Ni T e o.dst K) tm bx tk)):NStep P C o tm bx tk K:=by
 simp only[Et] at s
 refine⟨_,mW H (fun t I=>by unfold Sn at q;rw[I] at q;exact ltN q) O (P2 z v F) z F (by rw[E];exact leN L) (by rw[g];exact leN s.1) (by rw[g];exact leN s.2) (nF Q J off E g h),fun σ' h=>h⟩
theorem Ut {s:Nat} {cs:List AV} (off N:Nat) (e:Array ResultVar) (V:TabOk P T) (L:P.follows .mixedOrders=true) (I:o.op= .call {callee:= .value (.tmp s),args:=args,argTypes:=ats}) (q:Sn o.dst C.N=true)
 (M:evT tm (.tmp s)=some (.cl f fs cs)) (U:evL ⟨tm,bx,tk⟩ args.toList=some us) (E:P.funcs[f]?=some fn) (g:fn.ntmps=N) (z:(fn.name== "runtime.NumGoroutine")=false) (H:fn.body=some c) (F:fn.results=e) (O:Nat.ble e.size 4=true) (v:(Nat.ble (fs++us++cs).length N&&Nat.ble N 1000000)=true)
 (h:∀Q,G9 (inT (fs++us++cs) tm) (fun tm=>Ki P ⟨C.W,C.fp0,N,Q,C.z0⟩ ⟨T.ty,T.fd,T.st,T.mu,off⟩ c (Ni T e o.dst K) (fun _ _ _ _=>False) (Ni T e o.dst K) tm bx tk)):NStep P C o tm bx tk K:=by
 simp only[Et] at v
 refine⟨_,fP I (fun t J=>by unfold Sn at q;rw[J] at q;exact ltN q) (Fw M) U (P2 E z H) E H (by rw[F];exact leN O) (by rw[g];exact leN v.1) (by rw[g];exact leN v.2) (nF V L off F g h),fun σ' h=>h⟩
end
abbrev iv (n:Int):AV:= .d (.v (.int .i64 n))
abbrev bv (b:Bool):AV:= .d (.v (.bool b))
abbrev cv (b:Nat):AV:= .d (.v (.int .u8 b))
theorem Ej {A:Prop} (h:A):NBr true A B:=⟨fun _=>h,fun e=>(by cases e)⟩
theorem Ee {A:Prop} (h:B):NBr false A B:=⟨fun e=>(by cases e),fun _=>h⟩
theorem E7 {i:Decidable p} {A:Prop} (a:@decide p i=true→p→A) (b:@decide p i=false→¬p→B):NBr (@decide p i) A B:=⟨fun h=>a h (of_decide_eq_true h),fun h=>b h (of_decide_eq_false h)⟩
theorem H2 {x y:Int} {A:Prop} (a:(x !=y)=true→¬x=y→A) (b:(x !=y)=false→x=y→B):NBr (x !=y) A B:=⟨fun h=>a h (by rw[Av] at h;exact h),fun h=>b h (by rw[B1] at h;exact h)⟩
theorem Gp {A:Prop} (e:b=true) (h:A):NBr b A B:=⟨fun _=>h,fun g=>(by rw[e] at g;cases g)⟩
theorem He {A:Prop} (e:b=false) (h:B):NBr b A B:=⟨fun g=>(by rw[e] at g;cases g),fun _=>h⟩
theorem NInt.as {e:Int} (g:Int) (h:e=g) (k:A g):NInt e A:=⟨fun z q=>(by subst q;subst h;exact k)⟩
theorem NInt.i64 {m:Int} (k:A m) (h: -9223372036854775808≤m∧m≤9223372036854775807:=by(repeat' apply A1)<;>first|omega|rfl|(simp only[D9,Ax,En,Ec,Eh] at*;omega)):NInt (IntKind.i64.wrap m) A:= .as m (Bl m h) k
theorem NInt.i32 {m:Int} (k:A m) (h: -2147483648≤m∧m≤2147483647:=by(repeat' apply A1)<;>first|omega|rfl|(simp only[D9,Ax,En,Ec,Eh] at*;omega)):NInt (IntKind.i32.wrap m) A:= .as m (IntWalk.i32_in m h) k
theorem NInt.u8 {m:Int} (k:A m) (h:0≤m∧m≤255:=by(repeat' apply A1)<;>first|omega|rfl|(simp only[D9,Ax,En,Ec,Eh] at*;omega)):NInt (IntKind.u8.wrap m) A:= .as m (IntWalk.u8_in m h) k
theorem LG {m:Int} (k:A m) (h:0≤m∧m≤65535:=by(repeat' apply A1)<;>first|omega|rfl|(simp only[D9,Ax,En,Ec,Eh] at*;omega)):NInt (IntKind.u16.wrap m) A:= .as m (IntWalk.u16_in m h) k
theorem NInt.u32 {m:Int} (k:A m) (h:0≤m∧m≤4294967295:=by(repeat' apply A1)<;>first|omega|rfl|(simp only[D9,Ax,En,Ec,Eh] at*;omega)):NInt (IntKind.u32.wrap m) A:= .as m (IntWalk.u32_in m h) k
theorem NInt.u64 {m:Int} (k:A m) (h:0≤m∧m≤18446744073709551615:=by(repeat' apply A1)<;>first|omega|rfl|(simp only[D9,Ax,En,Ec,Eh] at*;omega)):NInt (IntKind.u64.wrap m) A:= .as m (IntWalk.u64_in m h) k
theorem NInt.quo {k:IntKind} (e:A ((m/d:Nat):Int)) (h:k.wrap ((m/d:Nat):Int)=((m/d:Nat):Int):=by first|exact IntWalk.u64_in _ Aa|exact Bl _ Aa|exact IntWalk.u32_in _ Aa|exact IntWalk.u8_in _ Aa):NInt (k.wrap ((m:Int).tdiv (d:Int))) A:=
 .as _ (by grind) e
theorem NInt.rem (e:A ((m%d:Nat):Int)):NInt ((m:Int).tmod (d:Int)) A:= .as _ (by grind) e
theorem EH {k:IntKind} (e:A ((m/(@OfNat.ofNat Nat d (instOfNatNat d)):Nat):Int)) (h:k.wrap ((m/(@OfNat.ofNat Nat d (instOfNatNat d)):Nat):Int)=((m/(@OfNat.ofNat Nat d (instOfNatNat d)):Nat):Int):=by first|exact IntWalk.u64_in _ Aa|exact Bl _ Aa|exact IntWalk.u32_in _ Aa|exact IntWalk.u8_in _ Aa):NInt (k.wrap ((m:Int).tdiv (@OfNat.ofNat Int d _))) A:= .quo (d:=d) e h
theorem EI (e:A ((m%(@OfNat.ofNat Nat d (instOfNatNat d)):Nat):Int)):NInt ((m:Int).tmod (@OfNat.ofNat Int d _)) A:= .rem (d:=d) e
theorem NInt.shr {e:Nat} (g:A ((m/2^e:Nat):Int)):NInt ((m:Int).fdiv (2^e)) A:= .as _ (by
 grind) g
theorem fR {z:Int} (m:Nat) (k:A ((UInt8.ofNat m).toNat:Int)) (e:z=(m:Int):=by omega):NInt (IntKind.u8.wrap z) A:= .as _ (by rw[e,jB m]) k
theorem V2 (k:A ((UInt8.ofNat m).toNat:Int)):NInt (IntKind.u8.wrap (m:Int)) A:= .as _ (jB m) k
theorem Fv {F A:Prop} (h:F) (k:A):NFact F A:=⟨h,k⟩
theorem LH {l:List α} {b:α} (h:l[i]?=some b):(l.drop i).take 1=[b]:=by
 grind [Ew,List.drop_eq_getElem_cons]
theorem NIdx.bytes {A:List D→Prop} {b:UInt8} (g:l[i]?=some b) (k:A [.v (.int .u8 b.toNat)]) (e:j=(i:Int):=by first|rfl|omega|(simp only[D9,En] at*;omega)):NIdx (Fj l) l.length 1 j A:=by
 refine⟨i,_,e,(Ew.1 g).1,?_,k⟩
 rw[Dq]
 grind [LH,Q4]
theorem NIdx.tab {f:α→List D} {l:List α} {A:List D→Prop} {b:α} (h:∀x,(f x).length=sz) (e:l[i]?=some b) (k:A (f b)) (g:j=(i:Int):=by first|rfl|omega|(simp only[D9,En] at*;omega)):NIdx (l.flatMap f) l.length sz j A:=
 ⟨i,_,g,(Ew.1 e).1,xQ h e,k⟩
theorem Hf {A:List D→Prop} (i:Nat) (k:A ((cs.drop (i*sz)).take sz)) (e:j=(i:Int):=by first|rfl|omega|(simp only[D9,En] at*;omega)) (hi:i<n:=by first|decide|omega):NIdx cs n sz j A:=⟨i,_,e,hi,rfl,k⟩
theorem I3 {A:UInt8→Prop} {b:UInt8} (g:l[i]?=some b) (k:A b) (e:j=(i:Int):=by first|rfl|omega|(simp only[D9,En] at*;omega)):NIdxS l j A:=⟨i,b,e,g,k⟩
theorem NSl.bytes {A:Nat→List D→Prop} (a b:Nat) (r:List UInt8) (e:(l.drop a).take (b-a)=r) (k:A r.length (Fj r)) (h:lo=a∧hi=b∧a≤b∧(b:Int)≤mx∧mx≤l.length:=by(repeat' apply A1)<;>first|omega|rfl|(simp only[D9,Ax,En,Ec,Eh] at*;omega)):NSl (Fj l) l.length 1 lo hi mx A:=by
 subst e
 refine⟨a,b,mx.toNat,_,_,Aa,Aa,Aa,Aa,Aa,Aa,?_,?_,k⟩
 ·grind
 ·rw[Dq,Dq,Ec,Eh,Nat.min_eq_left Aa,mI,mJ]
theorem NSl.slice {A:Nat→List D→Prop} (a b:Nat) (k:A ((l.drop a).take (b-a)).length (Fj ((l.drop a).take (b-a)))) (h:lo=a∧hi=b∧a≤b∧(b:Int)≤mx∧mx≤l.length:=by(repeat' apply A1)<;>first|omega|rfl|(simp only[D9,Ax,En,Ec,Eh] at*;omega)):NSl (Fj l) l.length 1 lo hi mx A:= .bytes a b _ rfl k h
theorem nG {A:Nat→List D→Prop} (b:Nat) (k:A (l.take b).length (Fj (l.take b))) (h:lo=0∧hi=b∧(b:Int)≤mx∧mx≤l.length:=by(repeat' apply A1)<;>first|omega|rfl|(simp only[D9,Ax,En,Ec,Eh] at*;omega)):NSl (Fj l) l.length 1 lo hi mx A:= .bytes 0 b _ rfl (by simpa using k) Aa
theorem So {A:Nat→List D→Prop} (a:Nat) (k:A (l.drop a).length (Fj (l.drop a))) (h:lo=a∧hi=l.length∧a≤l.length∧mx=l.length:=by(repeat' apply A1)<;>first|omega|rfl|(simp only[D9,Ax,En,Ec,Eh] at*;omega)):NSl (Fj l) l.length 1 lo hi mx A:= .bytes a l.length (l.drop a) (by grind) k Aa
theorem NSl.tab {f:α→List D} {l:List α} {A:Nat→List D→Prop} (g:∀x,(f x).length=sz) (a b:Nat) (r:List α) (e:(l.drop a).take (b-a)=r) (k:A r.length (r.flatMap f)) (h:lo=a∧hi=b∧a≤b∧(b:Int)≤mx∧mx≤l.length:=by(repeat' apply A1)<;>first|omega|rfl|(simp only[D9,Ax,En,Ec,Eh] at*;omega)):NSl (l.flatMap f) l.length sz lo hi mx A:=by
 subst e
 refine⟨a,b,mx.toNat,_,_,Aa,Aa,Aa,Aa,Aa,Aa,?_,?_,k⟩
 all_goals grind [Ec,Eh,Nat.min_eq_left,fO,fN]
theorem jJ {A:List UInt8→Prop} (k:A l):NStr (Fj l) A:=⟨l,rfl,k⟩
theorem NApp.bytes {m:List UInt8} {A:Nat→List D→Prop} (k:A (l++m).length (Fj (l++m))) (h:l.length+m.length≤1000000000:=by(repeat' apply A1)<;>first|omega|rfl|(simp only[D9,Ax,En,Ec,Eh] at*;omega)):NApp l.length l.length m.length (Fj l) (Fj m) A:=⟨rfl,h,_,_,by rw[En],by rw[Uh],k⟩
theorem NApp.bytes0 {m:List UInt8} {A:Nat→List D→Prop} (k:A m.length (Fj m)) (h:m.length≤1000000000:=by(repeat' apply A1)<;>first|omega|rfl|(simp only[D9,Ax,En,Ec,Eh] at*;omega)):NApp 0 0 m.length [] (Fj m) A:=⟨rfl,Aa,_,_,A0 _,rfl,k⟩
theorem VF {x:Int} {b:UInt8} (h:x=(b.toNat:Int)):[D.v (.int .u8 x)]=Fj [b]:=by subst h;rfl
theorem Tk {x:Int} {A:Nat→List D→Prop} (b:UInt8) (k:A (l++[b]).length (Fj (l++[b]))) (e:x=(b.toNat:Int):=by rfl) (h:l.length+1≤1000000000:=by(repeat' apply A1)<;>first|omega|rfl|(simp only[D9,Ax,En,Ec,Eh] at*;omega)):NApp l.length l.length 1 (Fj l) [.v (.int .u8 x)] A:=⟨rfl,h,_,_,by rw[En];rfl,by rw[Uh,VF e],k⟩
theorem LI (l:List UInt8) {m:List UInt8} {A:Nat→List D→Prop} (k:A (l++m).length (Fj (l++m))) (e:cs=Fj l:=by rfl) (g:n=l.length:=by rfl) (h:l.length+m.length≤1000000000:=by(repeat' apply A1)<;>first|omega|rfl|(simp only[D9,Ax,En,Ec,Eh] at*;omega)):NApp n n m.length cs (Fj m) A:=by
 subst e g;exact .bytes k h
theorem NApp.tab (f:α→List D) {l m:List α} {A:Nat→List D→Prop} (g:ds=m.flatMap f) (e:n=m.length) (k:A (l++m).length ((l++m).flatMap f)) (h:l.length+m.length≤1000000000:=by(repeat' apply A1)<;>first|omega|rfl|(simp only[D9,Ax,En,Ec,Eh] at*;omega)):NApp l.length l.length n (l.flatMap f) ds A:=by
 subst g e;exact⟨rfl,h,_,_,by rw[En],by rw[Ct],k⟩
theorem NApp.tab0 (f:α→List D) {m:List α} {A:Nat→List D→Prop} (g:ds=m.flatMap f) (e:n=m.length) (k:A m.length (m.flatMap f)) (h:m.length≤1000000000:=by(repeat' apply A1)<;>first|omega|rfl|(simp only[D9,Ax,En,Ec,Eh] at*;omega)):NApp 0 0 n [] ds A:=by
 subst g e;exact⟨rfl,Aa,_,_,A0 _,rfl,k⟩
theorem E4 (f:α→List D) (x:α) {l:List α} {A:Nat→List D→Prop} (k:A (l++[x]).length ((l++[x]).flatMap f)) (e:ds=f x:=by rfl) (h:l.length+1≤1000000000:=by(repeat' apply A1)<;>first|omega|rfl|(simp only[D9,Ax,En,Ec,Eh] at*;omega)):NApp l.length l.length 1 (l.flatMap f) ds A:=
 .tab f (m:=[x]) (by subst e;simp) rfl k h
theorem Qg (f:α→List D) (x:α) {A:Nat→List D→Prop} (k:A [x].length ([x].flatMap f)) (e:ds=f x:=by rfl):NApp 0 0 1 [] ds A:=
 .tab0 f (m:=[x]) (by subst e;simp) rfl k Ab
theorem L7 {n':Nat} {A:Nat→List D→Prop} (r:Nat) (e:List D) (k:A r e) (g:n'=n:=by rfl) (s:n+m≤1000000000:=by(repeat' apply A1)<;>first|omega|rfl|(simp only[D9,Ax,En,Ec,Eh] at*;omega)) (h:n+m=r:=by first|rfl|omega|(simp only[D9,En] at*;omega)) (q:cs++ds=e:=by first|rfl|simp):NApp n' n m cs ds A:=⟨g,s,r,e,h,q,k⟩
theorem Cs {o:Oper} {σ':AS} (h:Fp P C o ⟨tm,bx,tk⟩ σ') (k:K σ'.tm σ'.bx σ'.tk):NStep P C o tm bx tk K:=⟨Zl h k⟩
theorem NStep.some {o:Oper} {S:AS→Prop} (h:J3 P C o ⟨tm,bx,tk⟩ S) (k:∀σ',S σ'→K σ'.tm σ'.bx σ'.tk):NStep P C o tm bx tk K:=⟨S,h,k⟩
theorem Al {args:List AV} {A:AV→Prop} (h:Es P f fs (fun g=>g=r)) (e:args=fs) (k:A r):NCall P f args A:=by subst e;exact⟨r,h,k⟩
mutual
def leD:D→D→Prop
 | .v a,y=>match y with
   | .v b=>(match a,b with
     | .int k a,.int k' b=>k=k'∧a=b
     | .bool a,.bool b=>a=b
     |a,b=>a=b)
   | .sl _ n _ cs=>a= .slice none 0 0∧n=0∧cs=[]
   |_=>False
 | .sl t n sz cs,y=>match y with
   | .sl t' n' sz' cs'=>(t=true∨t=t')∧n=n'∧sz=sz'∧(cs=cs'∨EJ cs cs')
   |_=>False
 | .cp t ds,y=> .cp t ds=y
 | .fn f cs,y=> .fn f cs=y
def EJ:List D→List D→Prop
 |[],ys=>match ys with
  |[]=>True
  |_=>False
 |x::xs,ys=>match ys with
  |y::ys=>leD x y∧EJ xs ys
  |[]=>False
end
mutual
theorem LJ:∀{x y:D},leD x y→D.le x y
 | .v a,.v b,h=>by
   have:a=b:=by
    simp only[leD] at h
    split at h
    ·obtain⟨rfl,rfl⟩:=h;rfl
    ·subst h;rfl
    ·exact h
   subst this;exact .refl _
 | .v a,.sl t n sz cs,h=>by
   simp only[leD] at h
   obtain⟨rfl,rfl,rfl⟩:=h;exact .nil _ _
 | .v _,.cp _ _,h=>by simp only[leD] at h
 | .v _,.fn _ _,h=>by simp only[leD] at h
 | .sl t n sz cs,.sl t' n' sz' cs',h=>by
   simp only[leD] at h
   obtain⟨q,rfl,rfl,e⟩:=h
   have g:D.le (.sl t n sz cs) (.sl t' n sz cs):=by
    rcases q with rfl|rfl
    ·exact .tag _ _ _ _
    ·exact .refl _
   rcases e with rfl|e
   ·exact g
   ·obtain⟨s,v⟩:=xT e
    exact .trans g (.sl s v)
 | .sl _ _ _ _,.v _,h=>by simp only[leD] at h
 | .sl _ _ _ _,.cp _ _,h=>by simp only[leD] at h
 | .sl _ _ _ _,.fn _ _,h=>by simp only[leD] at h
 | .cp t ds,y,h=>by simp only[leD] at h;subst h;exact .refl _
 | .fn f cs,y,h=>by simp only[leD] at h;subst h;exact .refl _
theorem xT:∀{xs e:List D},EJ xs e→xs.length=e.length∧∀(i:Nat) x y,xs[i]?=some x→e[i]?=some y→D.le x y
 |[],[],_=>⟨rfl,fun i x y z=>by simp at z⟩
 |[],_::_,h=>by simp only[EJ] at h
 |_::_,[],h=>by simp only[EJ] at h
 |x::xs,y::e,h=>by
  simp only[EJ] at h
  obtain⟨s,v⟩:=xT h.2
  refine⟨by simp[s],fun i a b g q=> ?_⟩
  cases i with
  |zero=>simp at g q;subst g q;exact LJ h.1
  |succ i=>exact v i a b (by simpa using g) (by simpa using q)
end
mutual
def leW:AV→AV→Prop
 | .d x,v=>match v with
   | .d y=>leD x y
   |_=>False
 | .own k n sz e cs,v=>match v with
   | .d (.sl _ n' sz' cs')=>n=n'∧sz=sz'∧cs=cs'
   | .own k' n' sz' e' cs'=>k=k'∧n=n'∧sz=sz'∧e=e'∧cs=cs'
   |_=>False
 | .ptr k o,v=>match v with
   | .ptr k' o'=>k=k'∧o=o'
   |_=>False
 | .agg us,v=>match v with
   | .agg vs=>Sp us vs
   |_=>False
 | .tup us,v=>match v with
   | .tup vs=>Sp us vs
   |_=>False
 | .sem φ,v=>match v with
   | .sem ψ=>φ=ψ
   | .d y=>∃x,AV.sem φ=xG x∧x.un=y
   |_=>False
 | .cl f fs cs,v=>AV.cl f fs cs=v
 | .pk k o n sz,v=>AV.pk k o n sz=v
def Sp:List AV→List AV→Prop
 |[],vs=>match vs with
  |[]=>True
  |_=>False
 |u::us,vs=>match vs with
  |v::vs=>leW u v∧Sp us vs
  |[]=>False
end
mutual
theorem aP:∀{u v:AV},leW u v→AV.le u v
 | .d x,.d y,h=> .d (LJ (by simpa only[leW] using h))
 | .own k n sz e cs,.d (.sl t n' sz' cs'),h=>by simp only[leW] at h;obtain⟨rfl,rfl,rfl⟩:=h;exact .own _ _ _ _ _ _
 | .own k n sz e cs,.own k' n' sz' e' cs',h=>by simp only[leW] at h;obtain⟨rfl,rfl,rfl,rfl,rfl⟩:=h;exact .refl _
 | .ptr k o,.ptr k' o',h=>by simp only[leW] at h;obtain⟨rfl,rfl⟩:=h;exact .refl _
 | .agg us,.agg vs,h=>fL (Pm (by simpa only[leW] using h))
 | .tup us,.tup vs,h=>fK (Pm (by simpa only[leW] using h))
 | .cl f fs cs,v,h=>by simp only[leW] at h;subst h;exact .refl _
 | .pk k o n sz,v,h=>by simp only[leW] at h;subst h;exact .refl _
 | .d _,.cl _ _ _,h=>by simp only[leW] at h
 | .d _,.pk _ _ _ _,h=>by simp only[leW] at h
 | .ptr _ _,.cl _ _ _,h=>by simp only[leW] at h
 | .ptr _ _,.pk _ _ _ _,h=>by simp only[leW] at h
 | .own _ _ _ _ _,.cl _ _ _,h=>by simp only[leW] at h
 | .own _ _ _ _ _,.pk _ _ _ _,h=>by simp only[leW] at h
 | .agg _,.cl _ _ _,h=>by simp only[leW] at h
 | .agg _,.pk _ _ _ _,h=>by simp only[leW] at h
 | .tup _,.cl _ _ _,h=>by simp only[leW] at h
 | .tup _,.pk _ _ _ _,h=>by simp only[leW] at h
 | .sem _,.cl _ _ _,h=>by simp only[leW] at h
 | .sem _,.pk _ _ _ _,h=>by simp only[leW] at h
 | .sem φ,.sem ψ,h=>by simp only[leW] at h;subst h;exact .refl _
 | .sem φ,.d y,h=>by simp only[leW] at h;obtain⟨x,g,rfl⟩:=h;rw[g];exact .z x
 | .sem _,.ptr _ _,h=>by simp only[leW] at h
 | .sem _,.own _ _ _ _ _,h=>by simp only[leW] at h
 | .sem _,.agg _,h=>by simp only[leW] at h
 | .sem _,.tup _,h=>by simp only[leW] at h
 | .d _,.sem _,h=>by simp only[leW] at h
 | .ptr _ _,.sem _,h=>by simp only[leW] at h
 | .own _ _ _ _ _,.sem _,h=>by simp only[leW] at h
 | .agg _,.sem _,h=>by simp only[leW] at h
 | .tup _,.sem _,h=>by simp only[leW] at h
 | .d _,.ptr _ _,h=>by simp only[leW] at h
 | .d _,.own _ _ _ _ _,h=>by simp only[leW] at h
 | .d _,.agg _,h=>by simp only[leW] at h
 | .d _,.tup _,h=>by simp only[leW] at h
 | .own _ _ _ _ _,.d (.v _),h=>by simp only[leW] at h
 | .own _ _ _ _ _,.d (.cp _ _),h=>by simp only[leW] at h
 | .own _ _ _ _ _,.d (.fn _ _),h=>by simp only[leW] at h
 | .own _ _ _ _ _,.ptr _ _,h=>by simp only[leW] at h
 | .own _ _ _ _ _,.agg _,h=>by simp only[leW] at h
 | .own _ _ _ _ _,.tup _,h=>by simp only[leW] at h
 | .ptr _ _,.d _,h=>by simp only[leW] at h
 | .ptr _ _,.own _ _ _ _ _,h=>by simp only[leW] at h
 | .ptr _ _,.agg _,h=>by simp only[leW] at h
 | .ptr _ _,.tup _,h=>by simp only[leW] at h
 | .agg _,.d _,h=>by simp only[leW] at h
 | .agg _,.own _ _ _ _ _,h=>by simp only[leW] at h
 | .agg _,.ptr _ _,h=>by simp only[leW] at h
 | .agg _,.tup _,h=>by simp only[leW] at h
 | .tup _,.d _,h=>by simp only[leW] at h
 | .tup _,.own _ _ _ _ _,h=>by simp only[leW] at h
 | .tup _,.ptr _ _,h=>by simp only[leW] at h
 | .tup _,.agg _,h=>by simp only[leW] at h
theorem Pm:∀{us vs:List AV},Sp us vs→AV.les us vs
 |[],[],_=> .nil
 |u::us,v::vs,h=>by simp only[Sp] at h;exact .cons (aP h.1) (Pm h.2)
 |[],_::_,h=>by simp only[Sp] at h
 |_::_,[],h=>by simp only[Sp] at h
end
theorem H0 {args:List AV} {A:AV→Prop} (h:Es P f fs (fun g=>g=r)) (e:Sp args fs) (k:A r):NCall P f args A:=⟨r,h.les (Pm e),k⟩
theorem LK:∀x:D,leD x x
 | .v a=>by cases a<;>simp only[leD]<;>first|trivial|exact⟨trivial,trivial⟩
 | .sl t n sz cs=>by simp only[leD];grind
 | .cp t ds=>by simp only[leD]
 | .fn f cs=>by simp only[leD]
mutual
theorem Er:∀u:AV,leW u u
 | .d x=>by simp only[leW];exact LK x
 | .own k n sz e cs=>by simp only[leW];grind
 | .ptr k o=>by simp only[leW];exact⟨trivial,trivial⟩
 | .agg us=>by simp only[leW];exact Mv us
 | .tup us=>by simp only[leW];exact Mv us
 | .sem φ=>by simp only[leW]
 | .cl f fs cs=>by simp only[leW]
 | .pk k o n sz=>by simp only[leW]
theorem Mv:∀us:List AV,Sp us us
 |[]=>by simp only[Sp]
 |u::us=>by simp only[Sp];exact⟨Er u,Mv us⟩
end
def VG (tk:TK) (k n sz:Nat) (e:TypeId) (n' sz':Nat) (e':TypeId) (cs cs':List D):Prop:=
 match lk k tk with
 |some (a,b,c)=>(a=n∧b=sz∧c=e)∧n=n'∧sz=sz'∧e=e'∧cs=cs'
 |none=>False
def VH (tk:TK) (u X:AV):Prop:=
 match X with
 | .own 0 n' sz' e' cs'=>(match u with
   | .own k n sz e cs=>VG tk k n sz e n' sz' e' cs cs'
   |_=>False)
 | .tup (.own 0 n' sz' e' cs'::rs)=>(match u with
   | .tup (.own k n sz e cs::us)=>VG tk k n sz e n' sz' e' cs cs'∧Ji rs=true∧Sp us rs
   |_=>False)
 |X=>X.data=true∧leW u X
theorem xU {k:Nat} {e:TypeId} {n' q:Nat} {s:TypeId} {g:List D} (h:VG tk k n sz e n' q s cs g):lk k (AS.mk tm bx tk).tk=some (n,sz,e)∧n=n'∧sz=q∧e=s∧cs=g:=by
 unfold VG at h
 grind
theorem dh (h:VH tk u X):Fini ⟨tm,bx,tk⟩ u X:=by
 unfold VH at h
 split at h
 ·split at h
  ·obtain⟨e,rfl,rfl,rfl,rfl⟩:=xU (tm:=tm) (bx:=bx) h
   exact .own e
  ·exact h.elim
 ·split at h
  ·obtain⟨h,q,g⟩:=h
   obtain⟨e,rfl,rfl,rfl,rfl⟩:=xU (tm:=tm) (bx:=bx) h
   exact .tup e q (Pm g)
  ·exact h.elim
 ·exact .data h.1 (aP h.2)
theorem E0 (h:VH tk u X):NEnd tm bx tk u (fun r=>r=X):=⟨X,dh h,rfl⟩
mutual
def AV.dat:AV→AV
 | .d x=> .d x
 | .ptr k o=> .ptr k o
 | .own _ n sz _ cs=> .d (.sl true n sz cs)
 | .agg cs=> .agg (Pn cs)
 | .tup cs=> .tup (Pn cs)
 | .sem φ=> .sem φ
 | .cl f fs cs=> .cl f fs cs
 | .pk k o n sz=> .pk k o n sz
def Pn:List AV→List AV
 |[]=>[]
 |c::r=>c.dat::Pn r
end
mutual
theorem fS:∀u:AV,AV.le u u.dat
 | .d _=> .refl _
 | .ptr _ _=> .refl _
 | .own _ _ _ _ _=> .own _ _ _ _ _ _
 | .agg cs=>fL (Sq cs)
 | .tup cs=>fK (Sq cs)
 | .sem _=> .refl _
 | .cl _ _ _=> .refl _
 | .pk _ _ _ _=> .refl _
theorem Sq:∀us:List AV,AV.les us (Pn us)
 |[]=> .nil
 |u::us=> .cons (fS u) (Sq us)
end
theorem Gf (h:u.dat.data=true) (e:Φ u.dat):NEnd tm bx tk u Φ:=⟨u.dat,.data h (fS u),e⟩
noncomputable def di (tm σ:TM):Prop:=@List.rec (Nat×AV) (fun _=>Prop) True (fun p _ ih=>(match lk p.1 tm with
 |some u=>leW u p.2
 |none=>False)∧ih) σ
noncomputable def dl (bx σ:BX):Prop:=@List.rec (Nat×List AV) (fun _=>Prop) True (fun p _ ih=>(match lk p.1 bx with
 |some u=>Sp u p.2
 |none=>False)∧ih) σ
noncomputable def dm (tk σ:TK):Prop:=@List.rec (Nat×Nat×Nat×TypeId) (fun _=>Prop) True (fun p _ ih=>(match lk p.1 tk with
 |some u=>u=p.2
 |none=>False)∧ih) σ
noncomputable def wkW (tm:TM) (bx:BX) (tk:TK) (σ:AS):Prop:=di tm σ.tm∧dl bx σ.bx∧dm tk σ.tk
theorem dn (h:wkW tm bx tk σ):cj ⟨tm,bx,tk⟩ σ:=by
 obtain⟨F,I,H⟩:=h
 obtain⟨t,b,q⟩:=σ
 refine UB ?_ ?_ ?_
 ·have g:∀l:TM,di tm l→wkT ⟨tm,bx,tk⟩ l:=by
   intro l
   induction l with
   |nil=>intro _;exact trivial
   |cons p r s=>
    intro h
    obtain⟨k,v⟩:=p
    obtain⟨e,E⟩:(match lk k tm with|some u=>leW u v|none=>False)∧di tm r:=h
    split at e
    ·rename_i u z;exact⟨⟨u,z,aP e⟩,s E⟩
    ·exact e.elim
  exact g t F
 ·have g:∀l:BX,dl bx l→wkB ⟨tm,bx,tk⟩ l:=by
   intro l
   induction l with
   |nil=>intro _;exact trivial
   |cons p r s=>
    intro h
    obtain⟨k,v⟩:=p
    obtain⟨e,E⟩:(match lk k bx with|some u=>Sp u v|none=>False)∧dl bx r:=h
    split at e
    ·rename_i u z;exact⟨⟨u,z,Pm e⟩,s E⟩
    ·exact e.elim
  exact g b I
 ·have g:∀l:TK,dm tk l→wkK ⟨tm,bx,tk⟩ l:=by
   intro l
   induction l with
   |nil=>intro _;exact trivial
   |cons p r s=>
    intro h
    obtain⟨k,v⟩:=p
    obtain⟨e,E⟩:(match lk k tk with|some u=>u=v|none=>False)∧dm tk r:=h
    split at e
    ·rename_i u z;exact⟨by rw[←e];exact z,s E⟩
    ·exact e.elim
  exact g q H
theorem Uu (h:wkW tm bx tk σ):Ent ⟨tm,bx,tk⟩ σ:=fun _ _ _ e=>e.weak (dn h)
theorem EK (t sz:Nat) (e:TypeId) (F:lk t σ.tm=some (.d (.v (.slice none 0 0)))) (z:σ.clean t=true):Ent σ ⟨(t,.own t 0 sz e [])::σ.tm,σ.bx,(t,0,sz,e)::σ.tk⟩:=by
 rintro C a w ⟨bm,gt,fp,h⟩
 obtain⟨v,H,E⟩:=h.tm t _ F
 have q:=h.adopt z sz e
 have I:RA C.W.heap.size fp w bm (Nh gt t (.slice none 0 0)) (.own t 0 sz e []) v:=by
  rw[E.val]
  have:Nh gt t (.slice none 0 0) t= .slice none 0 0:=Gk _ _ _
  conv=>rhs;rw[←this]
  refine .own ?_
  rw[this]
  exact Ll _ _
 refine⟨_,_,_,{q with tm:=fun s u g=> ?_}⟩
 by_cases e:t=s
 ·grind [F1,Option.some.injEq]
 ·simp only[Gm _ _ e] at g
  exact q.tm s u g
theorem tZ (q off k sz:Nat) (e:TypeId) {cs:List AV} (U:lk q σ.bx=some cs) (M:cs[off]?=some (.d (.v (.slice none 0 0)))) (W:σ.clean k=true):Ent σ ⟨σ.tm,(q,cs.set off (.own k 0 sz e []))::σ.bx,(k,0,sz,e)::σ.tk⟩:=by
 rintro C a w ⟨bm,gt,fp,hg⟩
 have s:=hg.adopt W sz e
 have J:=s.bx q cs U
 have I:off<cs.length:=(Ew.1 M).1
 have Q:BoxOk C.W.heap.size fp w bm (Nh gt k (.slice none 0 0)) (bm q) (cs.set off (.own k 0 sz e [])):=by
  obtain⟨cur,Z,V,h2,h3⟩:=J.obj
  refine⟨J.own,J.un,cur,Z,V,by rw[List.length_set];exact h2,fun i u v O hv=> ?_⟩
  by_cases Y:off=i
  ·subst Y
   rw[List.getElem?_set_self I] at O
   cases O
   have H:=(h3 off _ v M hv).val
   rw[H]
   have:Nh gt k (.slice none 0 0) k= .slice none 0 0:=Gk _ _ _
   conv=>rhs;rw[←this]
   refine .own ?_
   rw[this]
   exact Ll _ _
  ·grind
 refine⟨_,_,_,{s with bx:=fun j c h=> ?_,bxi:=fun j z c c' h g=> ?_,tkb:=fun j z x c h g=> ?_}⟩
 ·by_cases E:q=j
  ·grind [F1,Option.some.injEq]
  ·simp only[Gm _ _ E] at h;exact s.bx j c h
 ·have L:∀j c,lk j ((q,cs.set off (.own k 0 sz e []))::σ.bx)=some c→∃c',lk j σ.bx=some c':=fun j c h=>by
   grind [Gm]
  obtain⟨d,hd⟩:=L j c h
  obtain⟨d',F⟩:=L z c' g
  exact s.bxi j z d d' hd F
 ·by_cases E:q=z
  ·subst E;exact s.tkb j q x cs h U
  ·simp only[Gm _ _ E] at g;exact s.tkb j z x c h g
inductive Ad where
 |s (t sz:Nat) (e:TypeId)
 |b (q off k sz:Nat) (e:TypeId)
noncomputable def adW (ad:List Ad):TM→BX→TK→KS→Prop:=
 @List.rec Ad (fun _=>TM→BX→TK→KS→Prop) (fun tm bx tk K=>K tm bx tk) (fun p _ ih tm bx tk K=>match p with
  | .s t sz e=>(match lk t tm with
    |some (.d (.v (.slice none 0 0)))=>bif clT t tm&&clB t bx then ih ((t,.own t 0 sz e [])::tm) bx ((t,0,sz,e)::tk) K else False
    |_=>False)
  | .b q off k sz e=>(match lk q bx with
    |some cs=>(match cs[off]? with
     |some (.d (.v (.slice none 0 0)))=>bif clT k tm&&clB k bx then G9 (cs.set off (.own k 0 sz e [])) (fun cs'=>ih tm ((q,cs')::bx) ((k,0,sz,e)::tk) K) else False
     |_=>False)
    |none=>False)) ad
theorem uA {σ:AS}:∀{H:List Ad} {tm:TM} {bx:BX} {tk:TK},adW H tm bx tk (fun tm bx tk=>wkW tm bx tk σ)→Ent ⟨tm,bx,tk⟩ σ
 |[],tm,bx,tk,h=>Uu h
 | .s t sz e::r,tm,bx,tk,h=>by
   have g:(match lk t tm with
    |some (.d (.v (.slice none 0 0)))=>bif clT t tm&&clB t bx then adW r ((t,.own t 0 sz e [])::tm) bx ((t,0,sz,e)::tk) (fun tm bx tk=>wkW tm bx tk σ) else False
    |_=>False):=h
   clear h
   split at g
   ·rename_i F
    cases s:(clT t tm&&clB t bx) with
    |true=>
     rw[s] at g
     exact fun C a w z=>uA g C a w (EK (σ:=⟨tm,bx,tk⟩) t sz e F s C a w z)
    |false=>rw[s] at g;exact g.elim
   ·exact g.elim
 | .b q off k sz e::r,tm,bx,tk,h=>by
   have g:(match lk q bx with
    |some cs=>(match cs[off]? with
     |some (.d (.v (.slice none 0 0)))=>bif clT k tm&&clB k bx then G9 (cs.set off (.own k 0 sz e [])) (fun v=>adW r tm ((q,v)::bx) ((k,0,sz,e)::tk) (fun tm bx tk=>wkW tm bx tk σ)) else False
     |_=>False)
    |none=>False):=h
   clear h
   split at g
   ·rename_i cs I
    split at g
    ·rename_i E
     cases s:(clT k tm&&clB k bx) with
     |true=>
      rw[s] at g
      have g:=Gg g
      exact fun C a w z=>uA g C a w (tZ (σ:=⟨tm,bx,tk⟩) q off k sz e I E s C a w z)
     |false=>rw[s] at g;exact g.elim
    ·exact g.elim
   ·exact g.elim
theorem Fh {R:KS→KS} (e:α→Prop) (E:α→Nat) (st:α→AS) (v:α) (H:e v) (F:wkW tm bx tk (st v))
 (g:∀a,e a→R (fun tm' q z=>∃s,e s∧E s<E a∧wkW tm' q z (st s)) (st a).tm (st a).bx (st a).tk):NLoop tm bx tk R:=
 ⟨α,e,E,st,fun a b=>wkW a.tm a.bx a.tk b,v,fun _ _ h=>Uu h,H,Uu F,g⟩
theorem F2 {R:KS→KS} (H:List Ad) (e:α→Prop) (E:α→Nat) (st:α→AS) (v:α) (I:e v) (F:adW H tm bx tk (fun tm bx tk=>wkW tm bx tk (st v)))
 (g:∀a,e a→R (fun tm' q z=>∃s,e s∧E s<E a∧wkW tm' q z (st s)) (st a).tm (st a).bx (st a).tk):NLoop tm bx tk R:=
 ⟨α,e,E,st,fun a b=>wkW a.tm a.bx a.tk b,v,fun _ _ h=>Uu h,I,uA F,g⟩
theorem leQ (h:p:=by((repeat'(first|exact trivial|exact Er _|refine A1 ?_ ?_|exact rfl|exact Cv rfl|exact Cz rfl|exact Cz Ah|omega|(dsimp only;omega)));first|done|fail)):p:=h
theorem J6 (h:p:=by((repeat'(first|exact trivial|exact Er _|refine A1 ?_ ?_|exact rfl|exact Cv rfl|exact Cz rfl|exact Cz Ah|omega|refine Cv ?_));first|done|fail)):p:=h
theorem gvQ (h:p:=by first|rfl|(simp only[D8,AV.ren,AV.give,D.un,Ef,D7,D6,Ap,Am,Ak];first|done|rfl)):p:=h
theorem asP (h:p:=by assumption):p:=h
theorem asQ (h:p:=by with_reducible assumption):p:=h
theorem zP {A:Prop} (h:A) (e:b=true:=by with_reducible assumption):NBr b A B:=Gp e h
theorem zN {A:Prop} (h:B) (e:b=false:=by with_reducible assumption):NBr b A B:=He e h
theorem zF {F A:Prop} (k:A) (h:F:=by exact⟨by decide+kernel,Ac⟩):NFact F A:=Fv h k
theorem zE (h:VH tk u X:=by((repeat'(first|exact trivial|exact Er _|refine A1 ?_ ?_|exact rfl|exact Cv rfl|exact Cz rfl|exact Cz Ah|omega|(dsimp only;omega)));first|done|fail)):NEnd tm bx tk u (fun r=>r=X):=E0 h
theorem zS:(∀(α:Type) (a:α) (l:List α),(a::l).length=l.length+1)∧(∀(α:Type),([]:List α).length=0)∧(∀(α:Type) (a b:List α),(a++b).length=a.length+b.length)∧(∀(p:Prop) [Decidable p],(decide p=true)=p)∧(∀(p:Prop) [Decidable p],(decide p=false)=¬p)∧(∀(α:Type) [BEq α] [LawfulBEq α] (a b:α),((a !=b)=true)=(a≠b))∧(∀(α:Type) [BEq α] [LawfulBEq α] (a b:α),((a==b)=true)=(a=b))∧(∀(α:Type) [BEq α] [LawfulBEq α] (a b:α),((a !=b)=false)=(a=b))∧(∀(α:Type) [BEq α] [LawfulBEq α] (a b:α),((a==b)=false)=(a≠b))∧(∀(α:Type) (a b:α),(a≠b)=¬(a=b))∧(∀b:Bool,((!b)=true)=(b=false))∧(∀b:Bool,((!b)=false)=(b=true)):=⟨fun _ _ _=>D9,fun _=>Ax,fun _ _ _=>En,fun _ _=>A3,fun _ _=>propext Ar,fun _ _ _ _ _=>propext Av,fun _ _ _ _ _=>propext A9,fun _ _ _ _ _=>propext B1,fun _ _ _ _ _=>propext An,fun _ _ _=>rfl,fun b=>by cases b<;>simp,fun b=>by cases b<;>simp⟩
theorem zB {A:Prop} (k:R) (h:R→NBr b A B:=by first|exact fun k=>Gp (by with_reducible assumption) k|exact fun k=>He (by with_reducible assumption) k|exact fun k=>Ej k|exact fun k=>Ee k):NBr b A B:=h k
theorem zA {A:Prop} (k:R) (h:R→NBr b A B:=by first|exact fun k=>Ej k|exact fun k=>Ee k|exact fun k=>He (by assumption) k):NBr b A B:=h k
theorem zD {A:Prop} (k:R) (h:R→NBr b A B:=by first|exact fun k=>Ej k|exact fun k=>Ee k|exact fun k=>Gp (by assumption) k):NBr b A B:=h k
theorem zY {A:Prop} (k:R) (h:R→NBr b A B:=by first|exact fun k=>Ej k|exact fun k=>Ee k):NBr b A B:=h k
theorem zI {e:Int} (k:R) (h:R→NInt e A:=by with_reducible first|exact fun k=>NInt.i64 k|exact fun k=>NInt.u8 k|exact fun k=>NInt.u32 k|exact fun k=>NInt.u64 k|exact fun k=>NInt.i32 k|exact fun k=>LG k|exact fun k=>NInt.quo k|exact fun k=>NInt.rem k|exact fun k=>EH k|exact fun k=>EI k|exact fun k=>NInt.shr k):NInt e A:=h k
theorem Sr (k:Nat):∀l:List D,Fu k (l.map AV.d)=true
 |[]=>rfl
 |x::r=>by rw[Bc,Fu,Sr k r];rfl
section
variable {P:Program} {C:Cx} {o:Oper} {σ:AS} {t:Nat}
theorem aQ {st e:TypeId} {k:Nat} {ki:IntKind} {d:TypeDesc} {z:Value} {by':Nat} (i:Nat) (ho:o.op= .indexAddr st x y) (hd:o.dst=some t) (ht:t<C.N) (hst:P.underlying st=some (.slice e)) (hT:TyOk P e d z sz by') (hx:σ.eval x=some (.pk k off n sz)) (hy:σ.eval y=some (.d (.v (.int ki j)))) (hj:j=(i:Int)) (hi:i<n):
 Fp P C o σ (σ.put t (.ptr k (off+i*sz))):=
 E1 hd ht fun a w bm gt fp hg=>by
  have h:=hg.eval hx
  have hyv:=(hg.eval hy).val
  subst hj
  generalize hv:a.eval x=v at h
  cases h with
  |@pk _ _ _ _ c h1 h2=>
   refine⟨.pointer (some ⟨bm k,off+i*sz,none⟩),?_,.ptr⟩
   simp only[execOp,ho,hv,hyv,Instr.indexAt,asIntOf]
   simp[go_sem,Bf hst,hi,hT.size,add_lit]
theorem aR {st e:TypeId} {k:Nat} (ho:o.op= .call {callee:= .builtin .len,args:=#[x],argTypes:=#[st]}) (hd:o.dst=some t) (ht:t<C.N) (hst:P.underlying st=some (.slice e)) (hx:σ.eval x=some (.pk k off n sz)):Fp P C o σ (σ.put t (.d (.v (.int .i64 n)))):=
 E1 hd ht fun a w bm gt fp hg=>by
  have h:=hg.eval hx
  generalize hv:a.eval x=v at h
  cases h with
  |@pk _ _ _ _ c h1 h2=>
   refine⟨_,?_,.d (.v _)⟩
   simp only[execOp,ho,resolve,invoke,builtin,Builtin.len_,Au,Bs,A6,List.map_toArray,Bc,List.map_nil,hv]
   simp[go_sem,Bf hst,goInt]
end
def V3 (R:KS→KS):Nat→KS
 |0=>fun _ _ _=>False
 |n+1=>fun tm bx tk=>V3 R n tm bx tk∨R (V3 R n) tm bx tk
theorem Xr {R:KS→KS} {tm:TM} {bx:BX} {tk:TK}:∀{n:Nat},V3 R n tm bx tk↔∃m,m<n∧R (V3 R m) tm bx tk
 |0=>⟨fun h=>h.elim,fun⟨m,h,_⟩=>by omega⟩
 |n+1=>by
  constructor
  ·rintro(h|h)
   ·obtain⟨m,q,g⟩:=Xr.1 h
    exact⟨m,Aa,g⟩
   ·exact⟨n,Aa,h⟩
  ·rintro⟨m,q,g⟩
   by_cases e:m=n
   ·subst e;exact .inr g
   ·exact .inl (Xr.2 ⟨m,Aa,g⟩)
theorem Hv (n:Nat) {R:KS→KS} (h:R (V3 R n) tm bx tk):NLoop tm bx tk R:=by
 refine⟨Nat×AS,fun p=>R (V3 R p.1) p.2.tm p.2.bx p.2.tk,fun p=>p.1,fun p=>p.2,fun a b=>a=b,(n,⟨tm,bx,tk⟩),fun a b e=>by subst e;exact Ent.refl _,h,Ent.refl _,?_⟩
 rintro⟨m,s⟩ H
 have e:(fun tm' g q=>∃v:Nat×AS,R (V3 R v.1) v.2.tm v.2.bx v.2.tk∧v.1<m∧(AS.mk tm' g q)=v.2)=V3 R m:=by
  funext tm' g q
  apply propext
  rw[Xr]
  constructor
  ·grind
  ·rintro⟨E,z,F⟩
   exact⟨(E,⟨tm',g,q⟩),F,z,rfl⟩
 grind
variable {P:Program} {C:Cx} {o:Oper} {σ:AS} {t:Nat}
theorem Fs {st e:TypeId} {k:Nat} {ki:IntKind} {d:TypeDesc} {z:Value} {by':Nat} (i:Nat) (ho:o.op= .indexAddr st x y) (hd:o.dst=some t) (ht:t<C.N) (hst:P.underlying st=some (.array m e)) (hT:TyOk P e d z sz by') (hx:σ.eval x=some (.ptr k off)) (hy:σ.eval y=some (.d (.v (.int ki j)))) (hj:j=(i:Int)) (hi:i<m):
 Fp P C o σ (σ.put t (.ptr k (off+i*sz))):=
 E1 hd ht fun a w bm gt fp hg=>by
  have h:=hg.eval hx
  have hyv:=(hg.eval hy).val
  subst hj
  generalize hv:a.eval x=v at h
  cases h with
  |ptr=>
   refine⟨.pointer (some ⟨bm k,off+i*sz,none⟩),?_,.ptr⟩
   simp only[execOp,ho,hv,hyv,Instr.indexAt,asIntOf]
   simp[go_sem,Bf hst,hi,hT.size,add_lit]
end Go.Proofs.YtbedjionhmaafaaGreatDoor
namespace Go.Proofs.YtbedjionhmaafaaGreatDoor
open Go.RowKit
variable {t sz:Nat}
abbrev Fe (n:String) (t o b:Nat) (p:String):Field:={name:=n,type:=t,offset:=o,embedded:=false,tag:= "",pkgPath:=p,byteOffset:=b}
abbrev Ek:Value:= .int .i64 0
abbrev Eu:Value:= .slice none 0 0
abbrev Gy:Value:= .string ⟨#[]⟩
abbrev Gu:Value:= .bool false
abbrev fl (n:String) (t o b:Nat):Field:={name:=n,type:=t,offset:=o,embedded:=false,tag:= "",pkgPath:= "",byteOffset:=b}
def tyL:List (Nat×TypeDesc×Value×Nat×Nat):=[(3,.int .i64,Ek,1,8),(4,.bool,Gu,1,1),(5,.int .u8,.int .u8 0,1,1),(9,.string,Gy,1,16),(22,.slice 5,Eu,1,24),(25,.struct #[fl "OID" 9 0 0,fl "Params" 22 1 16],.agg #[Gy,Eu],2,40),(27,.slice 171,Eu,1,24),(29,.struct #[fl "Year" 3 0 0,fl "Month" 3 1 8,fl "Day" 3 2 16,fl "Hour" 3 3 24,fl "Minute" 3 4 32,fl "Second" 3 5 40],.agg #[Ek,Ek,Ek,Ek,Ek,Ek],6,48),(31,.struct #[fl "Bytes" 22 0 0,fl "Unused" 3 1 24],.agg #[Eu,Ek],2,32),(33,.struct #[fl "Algorithm" 25 0 0,fl "Bits" 31 2 40],.agg #[Gy,Eu,Eu,Ek],4,72),(34,.slice 201,Eu,1,24),(36,.struct #[fl "Version" 3 0 0,fl "Serial" 22 1 8,fl "Signature" 25 2 32,fl "Issuer" 27 4 72,fl "NotBefore" 29 5 96,fl "NotAfter" 29 11 144,fl "Subject" 27 17 192,fl "Key" 33 18 216,fl "HasIssuerID" 4 22 288,fl "IssuerID" 31 23 296,fl "HasSubjectID" 4 25 328,fl "SubjectID" 31 26 336,fl "Extensions" 34 28 368],.agg #[Ek,Eu,Gy,Eu,Eu,Ek,Ek,Ek,Ek,Ek,Ek,Ek,Ek,Ek,Ek,Ek,Ek,Eu,Gy,Eu,Eu,Ek,Gu,Eu,Ek,Gu,Eu,Ek,Eu],29,392),(38,.struct #[fl "TBS" 36 0 0,fl "Algorithm" 25 29 392,fl "Signature" 31 31 432],.agg #[Ek,Eu,Gy,Eu,Eu,Ek,Ek,Ek,Ek,Ek,Ek,Ek,Ek,Ek,Ek,Ek,Ek,Eu,Gy,Eu,Eu,Ek,Gu,Eu,Ek,Gu,Eu,Ek,Eu,Gy,Eu,Eu,Ek],33,464),(39,.int .i64,Ek,1,8),(41,.struct #[fl "Code" 39 0 0,fl "Offset" 3 1 8],.agg #[Ek,Ek],2,16),(45,.slice 9,Eu,1,24),(47,.struct #[fl "From" 3 0 0,fl "To" 3 1 8],.agg #[Ek,Ek],2,16),(56,.slice 176,Eu,1,24),(58,.struct #[fl "Version" 3 0 0,fl "Signature" 25 1 8,fl "Issuer" 27 3 48,fl "ThisUpdate" 29 4 72,fl "HasNext" 4 10 120,fl "NextUpdate" 29 11 128,fl "Revoked" 56 17 176,fl "Extensions" 34 18 200],.agg #[Ek,Gy,Eu,Eu,Ek,Ek,Ek,Ek,Ek,Ek,Gu,Ek,Ek,Ek,Ek,Ek,Ek,Eu,Eu],19,224),(60,.struct #[fl "List" 58 0 0,fl "Algorithm" 25 19 224,fl "Signature" 31 21 264],.agg #[Ek,Gy,Eu,Eu,Ek,Ek,Ek,Ek,Ek,Ek,Gu,Ek,Ek,Ek,Ek,Ek,Ek,Eu,Eu,Gy,Eu,Eu,Ek],23,296),(77,.map 9 47,.map none,1,8),(82,.slice 22,Eu,1,24),(84,.struct #[Fe "parts" 82 0 0 "cretula/certificate",Fe "code" 39 1 24 "cretula/certificate"],.agg #[Eu,Ek],2,32),(85,.func #[22,39] #[] false,.nilFunc,1,8),(94,.struct #[Fe "list" 82 0 0 "cretula/revocation",Fe "code" 39 1 24 "cretula/revocation"],.agg #[Eu,Ek],2,32),(96,.pointer 179,.pointer none,1,8),(103,.func #[22] #[31,39] false,.nilFunc,1,8),(104,.slice 110,Eu,1,24),(108,.struct #[Fe "b" 22 0 0 "cretula/certificate",Fe "list" 104 1 24 "cretula/certificate",Fe "e" 41 2 48 "cretula/certificate"],.agg #[Eu,Eu,Ek,Ek],4,64),(110,.struct #[fl "Class" 3 0 0,fl "Number" 3 1 8,fl "Constructed" 4 2 16,fl "Start" 3 3 24,fl "Body" 3 4 32,fl "End" 3 5 40],.agg #[Ek,Ek,Gu,Ek,Ek,Ek],6,48),(117,.func #[22] #[22,41] false,.nilFunc,1,8),(137,.slice 139,Eu,1,24),(139,.struct #[fl "Class" 3 0 0,fl "Number" 3 1 8,fl "Constructed" 4 2 16,fl "Content" 22 3 24,fl "Kids" 137 4 48],.agg #[Ek,Ek,Gu,Eu,Eu],5,72),(169,.struct #[fl "OID" 9 0 0,fl "Value" 22 1 16],.agg #[Gy,Eu],2,40),(171,.slice 169,Eu,1,24),(174,.func #[29] #[22,39] false,.nilFunc,1,8),(176,.struct #[fl "Serial" 22 0 0,fl "Date" 29 1 24,fl "Extensions" 34 7 72],.agg #[Eu,Ek,Ek,Ek,Ek,Ek,Ek,Eu],8,96),(179,.struct #[Fe "b" 22 0 0 "cretula/revocation",Fe "list" 104 1 24 "cretula/revocation",Fe "e" 41 2 48 "cretula/revocation"],.agg #[Eu,Eu,Ek,Ek],4,64),(183,.func #[22] #[3,41] false,.nilFunc,1,8),(188,.func #[22] #[29,41] false,.nilFunc,1,8),(201,.struct #[fl "OID" 9 0 0,fl "Critical" 4 1 16,fl "Value" 22 2 24],.agg #[Gy,Gu,Eu],3,48),(209,.slice 275,Eu,1,24),(212,.slice 213,Eu,1,24),(213,.int .u64,.int .u64 0,1,8),(215,.int .u32,.int .u32 0,1,4),(216,.slice 215,Eu,1,24),(218,.slice 220,Eu,1,24),(220,.struct #[Fe "at" 3 0 0 "cretula/tree",Fe "end" 3 1 8 "cretula/tree",Fe "node" 139 2 16 "cretula/tree",Fe "kids" 218 7 88 "cretula/tree"],.agg #[Ek,Ek,Ek,Ek,Gu,Eu,Eu,Eu],8,112),(229,.struct #[Fe "number" 3 0 0 "cretula/dn",Fe "sorted" 4 1 8 "cretula/dn"],.agg #[Ek,Gu],2,16),(231,.func #[3] #[22,39] false,.nilFunc,1,8),(235,.func #[9] #[4] false,.nilFunc,1,8),(239,.map 9 4,.map none,1,8),(241,.slice 3,Eu,1,24),(251,.int .i8,.int .i8 0,1,1),(258,.slice 435,Eu,1,24),(260,.struct #[fl "HasID" 4 0 0,fl "ID" 22 1 8,fl "Issuer" 258 2 32,fl "Serial" 22 3 56],.agg #[Gu,Eu,Eu,Eu],4,80),(262,.struct #[fl "CA" 4 0 0,fl "HasPath" 4 1 1,fl "Path" 3 2 8],.agg #[Gu,Gu,Ek],3,16),(264,.struct #[fl "HasRequire" 4 0 0,fl "Require" 3 1 8,fl "HasInhibit" 4 2 16,fl "Inhibit" 3 3 24],.agg #[Gu,Ek,Gu,Ek],4,32),(265,.slice 494,Eu,1,24),(266,.slice 506,Eu,1,24),(268,.struct #[fl "Permitted" 258 0 0,fl "Excluded" 258 1 24],.agg #[Eu,Eu],2,48),(269,.slice 445,Eu,1,24),(271,.struct #[fl "Full" 258 0 0,fl "Relative" 171 1 24,fl "OnlyUser" 4 2 48,fl "OnlyCA" 4 3 49,fl "Indirect" 4 4 50,fl "OnlyAttribute" 4 5 51,fl "Reasons" 3 6 56],.agg #[Eu,Eu,Gu,Gu,Gu,Gu,Ek],7,64),(272,.slice 455,Eu,1,24),(273,.slice 463,Eu,1,24),(275,.struct #[fl "Kind" 3 0 0,fl "OID" 9 1 8,fl "Critical" 4 2 24,fl "Bytes" 22 3 32,fl "Number" 3 4 56,fl "Names" 45 5 64,fl "Generals" 258 6 88,fl "KeyID" 260 7 112,fl "Basic" 262 11 192,fl "Skip" 264 14 208,fl "Policies" 265 18 240,fl "Mappings" 266 19 264,fl "Subtrees" 268 20 288,fl "Points" 269 22 336,fl "Issuing" 271 23 360,fl "Accesses" 272 30 424,fl "Multis" 273 31 448,fl "Time" 29 32 472],.agg #[Ek,Gy,Gu,Eu,Ek,Eu,Eu,Gu,Eu,Eu,Eu,Gu,Gu,Ek,Gu,Ek,Gu,Ek,Eu,Eu,Eu,Eu,Eu,Eu,Eu,Gu,Gu,Gu,Gu,Ek,Eu,Eu,Ek,Ek,Ek,Ek,Ek,Ek],38,520),(283,.struct #[fl "Class" 3 0 0,fl "Number" 3 1 8,fl "Constructed" 4 2 16,fl "Length" 3 3 24,fl "Size" 3 4 32],.agg #[Ek,Ek,Gu,Ek,Ek],5,40),(302,.func #[22] #[22,39] false,.nilFunc,1,8),(310,.struct #[Fe "id" 9 0 0 "cretula/dispatch",Fe "name" 9 1 16 "cretula/dispatch",Fe "codec" 308 2 32 "cretula/dispatch"],.agg #[Gy,Gy,.nilIface],3,48),(311,.map 3 310,.map none,1,8),(333,.pointer 3,.pointer none,1,8),(334,.slice 333,Eu,1,24),(337,.array 12 3,.agg #[Ek,Ek,Ek,Ek,Ek,Ek,Ek,Ek,Ek,Ek,Ek,Ek],12,96),(339,.func #[314] #[338] false,.nilFunc,1,8),(340,.func #[314] #[333] false,.nilFunc,1,8),(342,.func #[314] #[341] false,.nilFunc,1,8),(343,.func #[258] #[22,39] false,.nilFunc,1,8),(344,.func #[22] #[258,41] false,.nilFunc,1,8),(346,.struct #[Fe "at" 342 0 0 "cretula/dispatch",Fe "marshal" 343 1 8 "cretula/dispatch",Fe "parse" 344 2 16 "cretula/dispatch"],.agg #[.nilFunc,.nilFunc,.nilFunc],3,24),(348,.struct #[Fe "at" 339 0 0 "cretula/dispatch",Fe "marshal" 302 1 8 "cretula/dispatch",Fe "parse" 117 2 16 "cretula/dispatch"],.agg #[.nilFunc,.nilFunc,.nilFunc],3,24),(350,.func #[314] #[349] false,.nilFunc,1,8),(351,.func #[269] #[22,39] false,.nilFunc,1,8),(352,.func #[22] #[269,41] false,.nilFunc,1,8),(354,.struct #[Fe "at" 350 0 0 "cretula/dispatch",Fe "marshal" 351 1 8 "cretula/dispatch",Fe "parse" 352 2 16 "cretula/dispatch"],.agg #[.nilFunc,.nilFunc,.nilFunc],3,24),(356,.func #[314] #[355] false,.nilFunc,1,8),(357,.func #[272] #[22,39] false,.nilFunc,1,8),(358,.func #[22] #[272,41] false,.nilFunc,1,8),(360,.struct #[Fe "at" 356 0 0 "cretula/dispatch",Fe "marshal" 357 1 8 "cretula/dispatch",Fe "parse" 358 2 16 "cretula/dispatch"],.agg #[.nilFunc,.nilFunc,.nilFunc],3,24),(362,.func #[314] #[361] false,.nilFunc,1,8),(363,.func #[273] #[22,39] false,.nilFunc,1,8),(364,.func #[22] #[273,41] false,.nilFunc,1,8),(366,.struct #[Fe "at" 362 0 0 "cretula/dispatch",Fe "marshal" 363 1 8 "cretula/dispatch",Fe "parse" 364 2 16 "cretula/dispatch"],.agg #[.nilFunc,.nilFunc,.nilFunc],3,24),(368,.struct #[Fe "at" 340 0 0 "cretula/dispatch",Fe "marshal" 231 1 8 "cretula/dispatch",Fe "parse" 183 2 16 "cretula/dispatch"],.agg #[.nilFunc,.nilFunc,.nilFunc],3,24),(370,.func #[314] #[369] false,.nilFunc,1,8),(371,.func #[262] #[22,39] false,.nilFunc,1,8),(372,.func #[22] #[262,41] false,.nilFunc,1,8),(374,.struct #[Fe "at" 370 0 0 "cretula/dispatch",Fe "marshal" 371 1 8 "cretula/dispatch",Fe "parse" 372 2 16 "cretula/dispatch"],.agg #[.nilFunc,.nilFunc,.nilFunc],3,24),(376,.func #[314] #[375] false,.nilFunc,1,8),(378,.struct #[Fe "at" 376 0 0 "cretula/dispatch",Fe "marshal" 174 1 8 "cretula/dispatch",Fe "parse" 188 2 16 "cretula/dispatch"],.agg #[.nilFunc,.nilFunc,.nilFunc],3,24),(380,.func #[314] #[379] false,.nilFunc,1,8),(381,.func #[271] #[22,39] false,.nilFunc,1,8),(382,.func #[22] #[271,41] false,.nilFunc,1,8),(384,.struct #[Fe "at" 380 0 0 "cretula/dispatch",Fe "marshal" 381 1 8 "cretula/dispatch",Fe "parse" 382 2 16 "cretula/dispatch"],.agg #[.nilFunc,.nilFunc,.nilFunc],3,24),(386,.func #[314] #[385] false,.nilFunc,1,8),(387,.func #[268] #[22,39] false,.nilFunc,1,8),(388,.func #[22] #[268,41] false,.nilFunc,1,8),(390,.struct #[Fe "at" 386 0 0 "cretula/dispatch",Fe "marshal" 387 1 8 "cretula/dispatch",Fe "parse" 388 2 16 "cretula/dispatch"],.agg #[.nilFunc,.nilFunc,.nilFunc],3,24),(392,.func #[314] #[391] false,.nilFunc,1,8),(393,.func #[265] #[22,39] false,.nilFunc,1,8),(394,.func #[22] #[265,41] false,.nilFunc,1,8),(396,.struct #[Fe "at" 392 0 0 "cretula/dispatch",Fe "marshal" 393 1 8 "cretula/dispatch",Fe "parse" 394 2 16 "cretula/dispatch"],.agg #[.nilFunc,.nilFunc,.nilFunc],3,24),(398,.func #[314] #[397] false,.nilFunc,1,8),(399,.func #[266] #[22,39] false,.nilFunc,1,8),(400,.func #[22] #[266,41] false,.nilFunc,1,8),(402,.struct #[Fe "at" 398 0 0 "cretula/dispatch",Fe "marshal" 399 1 8 "cretula/dispatch",Fe "parse" 400 2 16 "cretula/dispatch"],.agg #[.nilFunc,.nilFunc,.nilFunc],3,24),(404,.func #[314] #[403] false,.nilFunc,1,8),(405,.func #[260] #[22,39] false,.nilFunc,1,8),(406,.func #[22] #[260,41] false,.nilFunc,1,8),(408,.struct #[Fe "at" 404 0 0 "cretula/dispatch",Fe "marshal" 405 1 8 "cretula/dispatch",Fe "parse" 406 2 16 "cretula/dispatch"],.agg #[.nilFunc,.nilFunc,.nilFunc],3,24),(410,.func #[314] #[409] false,.nilFunc,1,8),(411,.func #[264] #[22,39] false,.nilFunc,1,8),(412,.func #[22] #[264,41] false,.nilFunc,1,8),(414,.struct #[Fe "at" 410 0 0 "cretula/dispatch",Fe "marshal" 411 1 8 "cretula/dispatch",Fe "parse" 412 2 16 "cretula/dispatch"],.agg #[.nilFunc,.nilFunc,.nilFunc],3,24),(416,.func #[314] #[415] false,.nilFunc,1,8),(417,.func #[45] #[22,39] false,.nilFunc,1,8),(418,.func #[22] #[45,41] false,.nilFunc,1,8),(420,.struct #[Fe "at" 416 0 0 "cretula/dispatch",Fe "marshal" 417 1 8 "cretula/dispatch",Fe "parse" 418 2 16 "cretula/dispatch"],.agg #[.nilFunc,.nilFunc,.nilFunc],3,24),(433,.struct #[fl "Kind" 3 0 0,fl "Value" 9 1 8],.agg #[Ek,Gy],2,24),(435,.struct #[fl "Kind" 3 0 0,fl "OID" 9 1 8,fl "Text" 9 2 24,fl "Bytes" 22 3 40,fl "Name" 27 4 64,fl "Assigner" 433 5 88,fl "Party" 433 7 112],.agg #[Ek,Gy,Gy,Eu,Eu,Ek,Gy,Ek,Gy],9,136),(443,.struct #[Fe "parts" 82 0 0 "cretula/point",Fe "code" 39 1 24 "cretula/point"],.agg #[Eu,Ek],2,32),(445,.struct #[fl "Full" 258 0 0,fl "Relative" 171 1 24,fl "Reasons" 3 2 48,fl "Issuer" 258 3 56],.agg #[Eu,Eu,Ek,Eu],4,80),(449,.func #[9,22] #[455,4] false,.nilFunc,1,8),(450,.func #[455] #[9,22,4] false,.nilFunc,1,8),(452,.struct #[Fe "make" 449 0 0 "cretula/access",Fe "split" 450 1 8 "cretula/access"],.agg #[.nilFunc,.nilFunc],2,16),(455,.struct #[fl "Method" 9 0 0,fl "Location" 435 1 16],.agg #[Gy,Ek,Gy,Gy,Eu,Eu,Ek,Gy,Ek,Gy],10,152),(457,.func #[9,22] #[463,4] false,.nilFunc,1,8),(458,.func #[463] #[9,22,4] false,.nilFunc,1,8),(460,.struct #[Fe "make" 457 0 0 "cretula/access",Fe "split" 458 1 8 "cretula/access"],.agg #[.nilFunc,.nilFunc],2,16),(463,.struct #[fl "OID" 9 0 0,fl "Values" 82 1 16],.agg #[Gy,Eu],2,40),(478,.struct #[Fe "full" 258 0 0 "cretula/point",Fe "relative" 171 1 24 "cretula/point"],.agg #[Eu,Eu],2,48),(481,.array 6 4,.agg #[Gu,Gu,Gu,Gu,Gu,Gu],6,6),(483,.struct #[{name:= "place",type:=478,offset:=0,embedded:=true,tag:= "",pkgPath:= "cretula/point",byteOffset:=0},Fe "reasons" 3 2 48 "cretula/point",Fe "issuer" 258 3 56 "cretula/point",Fe "flags" 481 4 80 "cretula/point"],.agg #[Eu,Eu,Ek,Eu,Gu,Gu,Gu,Gu,Gu,Gu],10,88),(485,.string,Gy,1,16),(488,.slice 258,Eu,1,24),(492,.slice 496,Eu,1,24),(494,.struct #[fl "OID" 9 0 0,fl "Qualifiers" 492 1 16],.agg #[Gy,Eu],2,40),(496,.struct #[fl "OID" 9 0 0,fl "Value" 22 1 16],.agg #[Gy,Eu],2,40),(501,.pointer 496,.pointer none,1,8),(506,.struct #[fl "Issuer" 9 0 0,fl "Subject" 9 1 16],.agg #[Gy,Gy],2,32),(510,.struct #[Fe "list" 104 0 0 "cretula/keyid"],.agg #[Eu],1,24),(512,.struct #[{name:= "elements",type:=510,offset:=0,embedded:=true,tag:= "",pkgPath:= "cretula/keyid",byteOffset:=0},Fe "b" 22 1 24 "cretula/keyid"],.agg #[Eu,Eu],2,48),(535,.map 3 533,.map none,1,8),(539,.struct #[Fe "kind" 3 0 0 "cretula/general",Fe "content" 22 1 8 "cretula/general"],.agg #[Ek,Eu],2,32),(576,.slice 433,Eu,1,24),(580,.array 11 9,.agg #[Gy,Gy,Gy,Gy,Gy,Gy,Gy,Gy,Gy,Gy,Gy],11,176)]
def All {α:Type} (Q:α→Prop):List α→Prop
 |[]=>True
 |x::r=>Q x∧All Q r
theorem jK {e:Type} {Q:Nat×e→Prop} {t:Nat} {x:e}:∀{l:List (Nat×e)},All Q l→lk t l=some x→Q (t,x)
 |[],_,h=>by cases h
 |(k,b)::r,ha,h=>by
  simp only[lk] at h
  cases g:Nat.beq k t with
  |true=>rw[g] at h;cases h;obtain rfl:=Aw g;exact ha.1
  |false=>rw[g] at h;exact jK ha.2 h
theorem jn:All (fun e:Nat×TypeDesc×Value×Nat×Nat=>TyOk Tryz.prog e.1 e.2.1 e.2.2.1 e.2.2.2.1 e.2.2.2.2) tyL:=by
 repeat' first|exact trivial|refine A1 ⟨Ac,Ac⟩ ?_
theorem VI {d:TypeDesc} {z:Value} {b:Nat} (h:lk t tyL=some (d,z,sz,b)):TyOk Tryz.prog t d z sz b:=jK jn h
theorem tyU {d:TypeDesc} {z:Value} {b:Nat} (h:lk t tyL=some (d,z,sz,b)):Tryz.prog.underlying t=some d:=(VI h).u
def fdL:List (Nat×List (Nat×Nat×Bool)):=[(25,[(0,1,false),(1,1,false)]),(29,[(0,1,false),(1,1,false),(2,1,false),(3,1,false),(4,1,false),(5,1,false)]),(31,[(0,1,false),(1,1,false)]),(33,[(0,2,true),(2,2,true)]),(36,[(0,1,false),(1,1,false),(2,2,true),(4,1,false),(5,6,true),(11,6,true),(17,1,false),(18,4,true),(22,1,false),(23,2,true),(25,1,false),(26,2,true),(28,1,false)]),(38,[(0,29,true),(29,2,true),(31,2,true)]),(41,[(0,1,false),(1,1,false)]),(47,[(0,1,false),(1,1,false)]),(58,[(0,1,false),(1,2,true),(3,1,false),(4,6,true),(10,1,false),(11,6,true),(17,1,false),(18,1,false)]),(60,[(0,19,true),(19,2,true),(21,2,true)]),(84,[(0,1,false),(1,1,false)]),(94,[(0,1,false),(1,1,false)]),(108,[(0,1,false),(1,1,false),(2,2,true)]),(110,[(0,1,false),(1,1,false),(2,1,false),(3,1,false),(4,1,false),(5,1,false)]),(139,[(0,1,false),(1,1,false),(2,1,false),(3,1,false),(4,1,false)]),(169,[(0,1,false),(1,1,false)]),(176,[(0,1,false),(1,6,true),(7,1,false)]),(179,[(0,1,false),(1,1,false),(2,2,true)]),(201,[(0,1,false),(1,1,false),(2,1,false)]),(220,[(0,1,false),(1,1,false),(2,5,true),(7,1,false)]),(229,[(0,1,false),(1,1,false)]),(260,[(0,1,false),(1,1,false),(2,1,false),(3,1,false)]),(262,[(0,1,false),(1,1,false),(2,1,false)]),(264,[(0,1,false),(1,1,false),(2,1,false),(3,1,false)]),(268,[(0,1,false),(1,1,false)]),(271,[(0,1,false),(1,1,false),(2,1,false),(3,1,false),(4,1,false),(5,1,false),(6,1,false)]),(275,[(0,1,false),(1,1,false),(2,1,false),(3,1,false),(4,1,false),(5,1,false),(6,1,false),(7,4,true),(11,3,true),(14,4,true),(18,1,false),(19,1,false),(20,2,true),(22,1,false),(23,7,true),(30,1,false),(31,1,false),(32,6,true)]),(283,[(0,1,false),(1,1,false),(2,1,false),(3,1,false),(4,1,false)]),(346,[(0,1,false),(1,1,false),(2,1,false)]),(348,[(0,1,false),(1,1,false),(2,1,false)]),(354,[(0,1,false),(1,1,false),(2,1,false)]),(360,[(0,1,false),(1,1,false),(2,1,false)]),(366,[(0,1,false),(1,1,false),(2,1,false)]),(368,[(0,1,false),(1,1,false),(2,1,false)]),(374,[(0,1,false),(1,1,false),(2,1,false)]),(378,[(0,1,false),(1,1,false),(2,1,false)]),(384,[(0,1,false),(1,1,false),(2,1,false)]),(390,[(0,1,false),(1,1,false),(2,1,false)]),(396,[(0,1,false),(1,1,false),(2,1,false)]),(402,[(0,1,false),(1,1,false),(2,1,false)]),(408,[(0,1,false),(1,1,false),(2,1,false)]),(414,[(0,1,false),(1,1,false),(2,1,false)]),(420,[(0,1,false),(1,1,false),(2,1,false)]),(433,[(0,1,false),(1,1,false)]),(435,[(0,1,false),(1,1,false),(2,1,false),(3,1,false),(4,1,false),(5,2,true),(7,2,true)]),(443,[(0,1,false),(1,1,false)]),(445,[(0,1,false),(1,1,false),(2,1,false),(3,1,false)]),(452,[(0,1,false),(1,1,false)]),(455,[(0,1,false),(1,9,true)]),(460,[(0,1,false),(1,1,false)]),(463,[(0,1,false),(1,1,false)]),(478,[(0,1,false),(1,1,false)]),(483,[(0,2,true),(2,1,false),(3,1,false),(4,6,true)]),(494,[(0,1,false),(1,1,false)]),(496,[(0,1,false),(1,1,false)]),(506,[(0,1,false),(1,1,false)]),(510,[(0,1,false)]),(512,[(0,1,true),(1,1,false)]),(539,[(0,1,false),(1,1,false)])]
def dp (t:Nat):Nat→List (Nat×Nat×Bool)→Prop
 |_,[]=>True
 |i,x::r=>FldOk Tryz.prog t i x.1 x.2.1 x.2.2∧dp t (i+1) r
theorem nH {t:Nat} {x:Nat×Nat×Bool}:∀{l:List (Nat×Nat×Bool)} {k i:Nat},dp t k l→l[i]?=some x→FldOk Tryz.prog t (k+i) x.1 x.2.1 x.2.2
 |[],_,_,_,h=>by simp at h
 |y::r,k,0,ha,h=>by simp at h;subst h;exact ha.1
 |y::r,k,i+1,ha,h=>by
  have:=nH (i:=i) ha.2 (by simpa using h)
  rw[show k+(i+1)=k+1+i by omega];exact this
def fdG (t i:Nat):Option (Nat×Nat×Bool):=match lk t fdL with
 |some l=>l[i]?
 |none=>none
theorem jo:All (fun e:Nat×List (Nat×Nat×Bool)=>dp e.1 0 e.2) fdL:=by
 repeat' first|exact trivial|refine A1 ⟨⟨_,_,_,_,_,tyU rfl,rfl,rfl,VI rfl,rfl⟩⟩ ?_|refine A1 ?_ ?_
theorem mq {i off:Nat} {e:Bool} (h:fdG t i=some (off,sz,e)):FldOk Tryz.prog t i off sz e:=by
 unfold fdG at h
 split at h
 ·rename_i l g
  have:=nH (k:=0) (jK jo g) h
  rw[A0] at this
  exact this
 ·cases h
def stL:List (Nat×List (Nat×Nat)):=[(25,[(0,1),(1,1)]),(29,[(0,1),(1,1),(2,1),(3,1),(4,1),(5,1)]),(31,[(0,1),(1,1)]),(33,[(0,2),(2,2)]),(36,[(0,1),(1,1),(2,2),(4,1),(5,6),(11,6),(17,1),(18,4),(22,1),(23,2),(25,1),(26,2),(28,1)]),(38,[(0,29),(29,2),(31,2)]),(41,[(0,1),(1,1)]),(47,[(0,1),(1,1)]),(58,[(0,1),(1,2),(3,1),(4,6),(10,1),(11,6),(17,1),(18,1)]),(60,[(0,19),(19,2),(21,2)]),(84,[(0,1),(1,1)]),(94,[(0,1),(1,1)]),(108,[(0,1),(1,1),(2,2)]),(110,[(0,1),(1,1),(2,1),(3,1),(4,1),(5,1)]),(139,[(0,1),(1,1),(2,1),(3,1),(4,1)]),(169,[(0,1),(1,1)]),(176,[(0,1),(1,6),(7,1)]),(179,[(0,1),(1,1),(2,2)]),(201,[(0,1),(1,1),(2,1)]),(220,[(0,1),(1,1),(2,5),(7,1)]),(229,[(0,1),(1,1)]),(260,[(0,1),(1,1),(2,1),(3,1)]),(262,[(0,1),(1,1),(2,1)]),(264,[(0,1),(1,1),(2,1),(3,1)]),(268,[(0,1),(1,1)]),(271,[(0,1),(1,1),(2,1),(3,1),(4,1),(5,1),(6,1)]),(275,[(0,1),(1,1),(2,1),(3,1),(4,1),(5,1),(6,1),(7,4),(11,3),(14,4),(18,1),(19,1),(20,2),(22,1),(23,7),(30,1),(31,1),(32,6)]),(283,[(0,1),(1,1),(2,1),(3,1),(4,1)]),(346,[(0,1),(1,1),(2,1)]),(348,[(0,1),(1,1),(2,1)]),(354,[(0,1),(1,1),(2,1)]),(360,[(0,1),(1,1),(2,1)]),(366,[(0,1),(1,1),(2,1)]),(368,[(0,1),(1,1),(2,1)]),(374,[(0,1),(1,1),(2,1)]),(378,[(0,1),(1,1),(2,1)]),(384,[(0,1),(1,1),(2,1)]),(390,[(0,1),(1,1),(2,1)]),(396,[(0,1),(1,1),(2,1)]),(402,[(0,1),(1,1),(2,1)]),(408,[(0,1),(1,1),(2,1)]),(414,[(0,1),(1,1),(2,1)]),(420,[(0,1),(1,1),(2,1)]),(433,[(0,1),(1,1)]),(435,[(0,1),(1,1),(2,1),(3,1),(4,1),(5,2),(7,2)]),(443,[(0,1),(1,1)]),(445,[(0,1),(1,1),(2,1),(3,1)]),(452,[(0,1),(1,1)]),(455,[(0,1),(1,9)]),(460,[(0,1),(1,1)]),(463,[(0,1),(1,1)]),(478,[(0,1),(1,1)]),(483,[(0,2),(2,1),(3,1),(4,6)]),(494,[(0,1),(1,1)]),(496,[(0,1),(1,1)]),(506,[(0,1),(1,1)]),(510,[(0,1)]),(512,[(0,1),(1,1)]),(539,[(0,1),(1,1)])]
theorem jp:All (fun e:Nat×List (Nat×Nat)=>StrOk Tryz.prog e.1 e.2) stL:=by
 repeat' first|exact trivial|refine A1 ⟨⟨_,tyU rfl,fun w=>by kernel_rfl⟩⟩ ?_
theorem mr {e:List (Nat×Nat)} (h:lk t stL=some e):StrOk Tryz.prog t e:=jK jp h
theorem mixed:Tryz.prog.follows .mixedOrders=true:=Ac
def muL:List Nat:=[167,166,312,357,293]
def tab:Tab:=⟨tyL,fdL,stL,muL,0⟩
theorem Eg:TabOk Tryz.prog tab where
 ty:=fun h=>VI h
 fd:=fun e g=>mq (by unfold fdG;rw[show lk _ fdL=_ from e];exact g)
 st:=fun h=>mr h
theorem acQ {f:FuncId} {fn:Func} {c:Code} {args:List AV} {Φ:AV→Prop} {e:Array ResultVar} (N:Nat) (v:Tryz.prog.funcs[f]?=some fn) (F:fn.body=some c) (E:fn.results=e) (h:∀W fp0 s,Ki Tryz.prog ⟨W,fp0,N,fun _=>none,s⟩ tab c (tW tab e Φ) (fun _ _ _ _=>False) (tW tab e Φ) (J4 0 args) [] []) (z:fn.ntmps=N:=by rfl) (g:(fn.name== "runtime.NumGoroutine")=false:=by kernel_rfl) (q:Nat.ble e.size 4=true:=by rfl) (H:(Nat.ble args.length N&&Nat.ble N 1000000)=true:=by rfl):Es Tryz.prog f args Φ:=Fl N e Eg mixed v z g F E q H h
section
variable {C:Cx} {o:Oper} {σ:AS} {t:Nat}
end
theorem NStep.call {P:Program} {C:Cx} {o:Oper} {tm:TM} {bx:BX} {tk:TK} {K:KS} {f:FuncId} {args:Array Operand} {ats:Array TypeId} {us fs:List AV} {r:AV} (e:Es P f fs (fun q=>q=r)) (v:o.op= .call {callee:= .value (.func f),args:=args,argTypes:=ats}) (E:o.dst=Option.some t) (z:t<C.N) (κ:Nat) (s:AS.clean κ ⟨tm,bx,tk⟩=true)
 (H:evL ⟨tm,bx,tk⟩ args.toList=Option.some us) (F:Fb us=true) (g:D8 us=fs) (k:K (AS.res ⟨tm,bx,tk⟩ t κ r).tm (AS.res ⟨tm,bx,tk⟩ t κ r).bx (AS.res ⟨tm,bx,tk⟩ t κ r).tk):NStep P C o tm bx tk K:=
 NStep.some (Xj v E z s H F g e) fun σ' ⟨q,I,h⟩=>by subst I h;exact k
abbrev aC (f:FuncId) (l:List AV) (x:AV):Prop:=Es Tryz.prog f l fun r=>r=x
end Go.Proofs.YtbedjionhmaafaaGreatDoor
