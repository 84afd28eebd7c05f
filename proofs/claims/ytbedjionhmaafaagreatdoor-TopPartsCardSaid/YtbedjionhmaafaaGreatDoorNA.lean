/- NA: the texts BsP BsM PkM BsV BsE BsD Bol, one behind the other. No condition but what each lemma says. -/
import Derived.Test.YtbedjionhmaafaaGreatDoorMD
import Derived.Laws.MakeOwn
set_option linter.all false
namespace Go.Proofs.YtbedjionhmaafaaGreatDoor
open Go.RowKit
set_option maxRecDepth 100000
variable {s i u:Nat} {l:List UInt8}
def kp (x:Nat):Nat:=(List.range 8).foldl (fun a i=>a+(if x.testBit i then 2^(7-i) else 0)) 0
def GL (s:Nat):List UInt8:=if s=0 then [0] else if s<256 then [UInt8.ofNat (7-s.log2),UInt8.ofNat (kp s)] else [7,UInt8.ofNat (kp (s%256)),128]
def Me (l:List UInt8) (i:Nat):Bool:=((l.getD (i/8) 0).toNat>>>(7-i%8))%2==1
def stN (f:Nat→Bool):Nat→Nat
 |0=>0
 |i+1=>if f i then stN f i|||(1<<<i) else stN f i
def Jd (l:List UInt8) (u:Nat):Bool:=match l.getLast? with
 |none=>u==0
 |some x=>decide (u≤7)&&(x.toNat%2^u==0)
def Wv:List UInt8→Option Nat
 |[]=>none
 |u::l=>if Jd l u.toNat=true∧8*l.length-u.toNat≤9∧(0<8*l.length-u.toNat→Me l (8*l.length-u.toNat-1)=true) then some (stN (Me l) (8*l.length-u.toNat)) else none
theorem nd:∀u:Fin 256,(Wv [UInt8.ofNat u]).all (fun s=>GL s==[UInt8.ofNat u]&&decide (s<512))=true:=by decide+kernel
theorem nf:∀u:Fin 8,∀x:Fin 256,(Wv [UInt8.ofNat u,UInt8.ofNat x]).all (fun s=>GL s==[UInt8.ofNat u,UInt8.ofNat x]&&decide (s<512))=true:=by decide+kernel
theorem ng:∀x:Fin 256,∀y:Fin 2,(Wv [7,UInt8.ofNat x,UInt8.ofNat (128*y)]).all (fun s=>GL s==[7,UInt8.ofNat x,UInt8.ofNat (128*y)]&&decide (s<512))=true:=by decide+kernel
theorem cQ {o:Option Nat} {p:Nat→Bool} (h:o=some s) (a:o.all p=true):p s=true:=by subst h;exact a
theorem Zr (u:UInt8):UInt8.ofNat u.toNat=u:=B8.1 (by simp_all)
theorem X5 {u:UInt8} (h:Wv (u::l)=some s):Jd l u.toNat=true∧8*l.length-u.toNat≤9:=by
 have e:Wv (u::l)=if Jd l u.toNat=true∧8*l.length-u.toNat≤9∧(0<8*l.length-u.toNat→Me l (8*l.length-u.toNat-1)=true) then some (stN (Me l) (8*l.length-u.toNat)) else none:=rfl
 grind
theorem OT:∀{c:List UInt8} {s:Nat},Wv c=some s→s<512∧c=GL s:=by
 intro c s h
 match c,h with
 |[],h=>cases h
 |[u],h=>
  have:=cQ h (by have:=nd ⟨u.toNat,u.toNat_lt⟩;rw[Zr] at this;exact this)
  grind
 |[u,x],h=>
  have d:u.toNat<8:=by
   have:=(X5 h).1
   simp[Jd] at this
   omega
  have:=cQ h (by have:=nf ⟨u.toNat,d⟩ ⟨x.toNat,x.toNat_lt⟩;rw[Zr,Zr] at this;exact this)
  grind
 |[u,x,y],h=>
  obtain⟨d,g⟩:u=7∧(y=0∨y=128):=by
   obtain⟨b,e⟩:=X5 h
   simp[Jd] at b
   simp at e
   have f:u.toNat=7:=Aa
   have:u=7:=B8.1 f
   refine⟨this,?_⟩
   have a:=b.2
   rw[f] at a
   have:∀y:Fin 256,y.val%2^7=0→y.val=0∨y.val=128:=by decide+kernel
   rcases this ⟨y.toNat,y.toNat_lt⟩ a with h|h
   ·exact .inl (B8.1 h)
   ·exact .inr (B8.1 h)
  subst d
  have a:∃z:Fin 2,y=UInt8.ofNat (128*z):=by
   rcases g with rfl|rfl
   ·exact⟨0,rfl⟩
   ·exact⟨1,rfl⟩
  obtain⟨z,rfl⟩:=a
  have:=cQ h (by have:=ng ⟨x.toNat,x.toNat_lt⟩ z;rw[Zr] at this;exact this)
  grind
 |u::x::y::z::r,h=>
  exfalso
  obtain⟨b,e⟩:=X5 h
  grind [Jd]
def kS (c:List UInt8):Option Nat:=(Wv c).filter (fun s=>s !=0)
theorem OU {c:List UInt8} (h:kS c=some s):0<s∧s<512∧c=GL s:=by
 unfold kS at h
 rw[Option.filter_eq_some_iff] at h
 obtain⟨a,b⟩:=h
 obtain⟨e,d⟩:=OT a
 grind
set_option maxHeartbeats 8000000
def mbI (s i:Nat):List Nat:=(List.range i).filter fun j=>s/2^j%2==1
def mbr (s:Nat):List Nat:=mbI s 9
theorem nh (h:i≤64):(s:Int).fdiv (2^(min ((i:Nat):Int).toNat 64))=((s/2^i:Nat):Int):=by
 rw[Cr,Nat.min_eq_left h,Int.fdiv_eq_ediv_of_nonneg _ (by exact_mod_cast Nat.zero_le (2^i)),Int.natCast_ediv,Int.natCast_pow];rfl
section
variable {P:Program} {C:Cx} {o:Oper} {σ:AS} {t:Nat}
end
abbrev btA (l:List UInt8) (u:Nat):AV:= .agg [.d (By false l),iv u]
theorem ni (h:u≤7):IntKind.u8.wrap (1*2^(min ((u:Nat):Int).toNat IntKind.u8.bits))=((2^u:Nat):Int):=by
 have:∀u:Fin 8,IntKind.u8.wrap (1*2^(min ((u.val:Nat):Int).toNat IntKind.u8.bits))=((2^u.val:Nat):Int):=by decide+kernel
 exact this ⟨u,Aa⟩
theorem nj (h:u≤7):IntKind.u8.wrap (((2^u:Nat):Int)-1)=((2^u-1:Nat):Int):=by
 have:∀u:Fin 8,IntKind.u8.wrap (((2^u.val:Nat):Int)-1)=((2^u.val-1:Nat):Int):=by decide+kernel
 exact this ⟨u,Aa⟩
theorem nk (x:UInt8) (h:u≤7):IntKind.u8.wrap ((BitVec.ofInt IntKind.u8.bits (x.toNat:Int)&&&BitVec.ofInt IntKind.u8.bits ((2^u-1:Nat):Int)).toNat:Int)=((x.toNat%2^u:Nat):Int):=by
 have:∀u:Fin 8,∀x:Fin 256,IntKind.u8.wrap ((BitVec.ofInt IntKind.u8.bits (x.val:Int)&&&BitVec.ofInt IntKind.u8.bits ((2^u.val-1:Nat):Int)).toNat:Int)=((x.val%2^u.val:Nat):Int):=by decide+kernel
 exact this ⟨u,Aa⟩ ⟨x.toNat,x.toNat_lt⟩
theorem cR {x:UInt8} (a:l[l.length-1]?=some x):Jd l u=(decide (u≤7)&&(x.toNat%2^u==0)):=by
 unfold Jd
 rw[List.getLast?_eq_getElem?,a]
theorem AI (h:l≠[]):∃x,l[l.length-1]?=some x:=⟨_,Ev (by have:=List.length_pos_iff.2 h;omega)⟩
theorem OV (h:Jd l u=true):u≤7∧u≤8*l.length:=by
 by_cases a:l=[]
 ·subst a
  have:(u==0)=true:=h
  rw[A9] at this
  omega
 ·obtain⟨x,b⟩:=AI a
  rw[cR b,Et,A3] at h
  have:=List.length_pos_iff.2 a
  omega
theorem Lv (l:List UInt8) (u:Nat) (w:l.length≤1000000) (v:u≤255):aC 79 [btA l u] (bv (Jd l u)):=by
 by_cases b:l=[]
 ·subst b
  show Es _ _ _ (fun r=>r=bv (u==0))
  cases d:(u==0)
  ·have g:((u:Int)==0)=false:=by rw[An] at d⊢;omega
   refine acQ 34 Tryz.func79 rfl rfl fun _ _ _=> ?_
   (repeat'((conv=>whnf);refine Ej ?_));(all_goals(conv=>whnf))
   all_goals(refine E0 ?_;(repeat'(first|refine A1 ?_ ?_|exact rfl));(all_goals(conv=>whnf)))
   all_goals exact g
  ·have g:((u:Int)==0)=true:=by rw[A9] at d⊢;omega
   refine acQ 34 Tryz.func79 rfl rfl fun _ _ _=> ?_
   (repeat'((conv=>whnf);refine Ej ?_));(all_goals(conv=>whnf))
   all_goals(refine E0 ?_;(repeat'(first|refine A1 ?_ ?_|exact rfl));(all_goals(conv=>whnf)))
   all_goals exact g
 obtain⟨x,e⟩:=AI b
 have c:=List.length_pos_iff.2 b
 have y:((l.length:Int)==0)=false:=by rw[An];omega
 have p:decide ((u:Int)≥0)=true:=Aq Aa
 rw[cR e]
 by_cases a:u≤7
 ·have j:decide ((u:Int)≤7)=true:=Aq Aa
  rw[Aq a,Cd]
  have m:=ni a
  have h:=nj a
  have k:=nk x a
  have f:∀q:Nat,((q:Int)==0)=(q==0):=fun q=>by rw[Bz];simp
  have n:=f (x.toNat%2^u)
  refine acQ 34 Tryz.func79 rfl rfl fun _ _ _=> ?_
  (repeat'((conv=>whnf);first|refine zB ?_|refine NIdx.bytes e ?_|refine NInt.as (((l.length-1:Nat):Int)) ((by rw[Bl _ Aa];omega)) ?_|refine NInt.as (((2^u:Nat):Int)) (m) ?_|refine NInt.as (((2^u-1:Nat):Int)) (h) ?_|refine NInt.as (((x.toNat%2^u:Nat):Int)) (k) ?_|refine zF ?_|refine Fv (by first|decide|omega|(simp only[D9,Ax];omega)) ?_));(all_goals(conv=>whnf))
  all_goals(refine E0 ?_;(repeat'(first|refine A1 ?_ ?_|exact rfl));(all_goals(conv=>whnf)))
  all_goals exact n
 ·have j:decide ((u:Int)≤7)=false:=Ao Aa
  rw[Ao a,C4]
  refine acQ 34 Tryz.func79 rfl rfl fun _ _ _=> ?_
  (repeat'((conv=>whnf);first|refine zB ?_|refine zF ?_|exact zE))
def dcB:List UInt8→Option (List UInt8×Nat)
 |[]=>none
 |u::l=>if Jd l u.toNat=true then some (l,u.toNat) else none
def dcA (t:Bool):Option (List UInt8×Nat)→AV
 |none=> .tup [.agg [Ff,iv 0],iv 6]
 |some p=> .tup [.agg [.d (By t p.1),iv p.2],iv 0]
theorem Qs (c:List UInt8) (b:c.length≤1000000):aC 46 [.d (By false c)] (dcA true (dcB c)):=by
 cases c with
 |nil=>
  refine acQ 22 Tryz.func46 rfl rfl fun _ _ _=> ?_
  (repeat'((conv=>whnf);refine Ej ?_));(all_goals(conv=>whnf))
  all_goals exact zE
 |cons u l=>
  simp only[D9] at b
  have f:(u::l)[0]?=some u:=rfl
  have h:((((u::l).length:Nat):Int)==0)=false:=by rw[An];simp only[D9];omega
  have d:=Gq l Aa
  have g:=u.toNat_lt
  have a:=Lv l u.toNat Aa Aa
  show Es _ _ _ (fun r=>r=dcA true (if Jd l u.toNat=true then some (l,u.toNat) else none))
  cases e:Jd l u.toNat
  all_goals
   rw[e] at a
   refine acQ 22 Tryz.func46 rfl rfl fun _ _ _=> ?_
   (repeat'((conv=>whnf);first|refine zB ?_|refine NIdx.bytes f ?_|refine So (1) ?_|refine Al d gvQ ?_|refine Al a gvQ ?_|refine zI ?_|refine zF ?_|exact zE))
def Y9 (l:List UInt8) (u:Nat):Nat:=if Jd l u=true then 8*l.length-u else 0
theorem X6 (l:List UInt8) (u:Nat) (d:l.length≤1000000) (c:u≤255):aC 353 [btA l u] (iv (Y9 l u)):=by
 have a:=Lv l u d c
 unfold Y9
 cases b:Jd l u
 ·rw[b] at a
  refine acQ 13 Tryz.func353 rfl rfl fun _ _ _=> ?_
  (repeat'((conv=>whnf);first|refine Ej ?_|refine Al a gvQ ?_|exact zE))
 ·rw[b] at a
  obtain⟨e,f⟩:=OV b
  rw[Aj rfl]
  refine acQ 13 Tryz.func353 rfl rfl fun _ _ _=> ?_
  (repeat'((conv=>whnf);first|refine Ee ?_|refine Al a gvQ ?_|refine NInt.as (((8*l.length:Nat):Int)) ((by rw[Bl _ Aa];omega)) ?_|refine NInt.as (((8*l.length-u:Nat):Int)) ((by rw[Bl _ Aa];omega)) ?_|exact zE))
theorem nl (x:UInt8) {e:Nat} (h:e≤7):(x.toNat:Int).fdiv (2^(min ((e:Nat):Int).toNat IntKind.u8.bits))=((x.toNat/2^e:Nat):Int):=by
 have:∀e:Fin 8,∀x:Fin 256,(x.val:Int).fdiv (2^(min ((e.val:Nat):Int).toNat IntKind.u8.bits))=((x.val/2^e.val:Nat):Int):=by decide+kernel
 exact this ⟨e,Aa⟩ ⟨x.toNat,x.toNat_lt⟩
theorem kq {m:Nat} (h:m<256):IntKind.u8.wrap ((BitVec.ofInt IntKind.u8.bits (m:Int)&&&BitVec.ofInt IntKind.u8.bits 1).toNat:Int)=((m%2:Nat):Int):=by
 have:∀m:Fin 256,IntKind.u8.wrap ((BitVec.ofInt IntKind.u8.bits (m.val:Int)&&&BitVec.ofInt IntKind.u8.bits 1).toNat:Int)=((m.val%2:Nat):Int):=by decide+kernel
 exact this ⟨m,h⟩
theorem XG {x:UInt8} (a:l[i/8]?=some x):Me l i=(x.toNat/2^(7-i%8)%2==1):=by
 unfold Me
 rw[Bo,a,Cu,Nat.shiftRight_eq_div_pow]
def atB (l:List UInt8) (u i:Nat):Bool:=decide (i<Y9 l u)&&Me l i
theorem XH (h:i<Y9 l u):∃x,l[i/8]?=some x:=by
 have:i/8<l.length:=by
  unfold Y9 at h
  split at h<;>omega
 exact⟨_,Ev this⟩
theorem OW (l:List UInt8) (u i:Nat) (j:l.length≤1000000) (g:u≤255) (v:i≤100000000):aC 355 [btA l u,iv i] (bv (atB l u i)):=by
 have a:=X6 l u j g
 have w:decide ((i:Int)≥0)=true:=Aq Aa
 unfold atB
 by_cases h:i<Y9 l u
 ·obtain⟨x,f⟩:=XH h
  rw[Aq h,Cd,XG f]
  have b:decide ((i:Int)<(Y9 l u:Int))=true:=Aq Aa
  generalize Y9 l u=n at a b
  have r:=x.toNat_lt
  have d:=nl x (e:=7-i%8) Aa
  have p:=Nat.div_le_self x.toNat (2^(7-i%8))
  have c:=kq (m:=x.toNat/2^(7-i%8)) Aa
  generalize y:x.toNat/2^(7-i%8)=q at d c p
  have k:(((q%2:Nat):Int) !=0)=(q%2==1):=by
   rcases(by omega:q%2=0∨q%2=1) with h|h<;>rw[h]<;>rfl
  refine acQ 27 Tryz.func355 rfl rfl fun _ _ _=> ?_
  (repeat'((conv=>whnf);first|refine zB ?_|refine Al a gvQ ?_|refine NIdx.bytes f ?_|refine NInt.as (((7-i%8:Nat):Int)) ((by rw[Bl _ Aa];omega)) ?_|refine NInt.as ((q:Int)) (d) ?_|refine NInt.as (((q%2:Nat):Int)) (c) ?_|refine zI ?_|refine Fv (by first|decide|omega|(simp only[D9,Ax];omega)) ?_));(all_goals(conv=>whnf))
  all_goals(refine E0 ?_;(repeat'(first|refine A1 ?_ ?_|exact rfl));(all_goals(conv=>whnf)))
  all_goals exact k
 ·rw[Ao h,C4]
  have b:decide ((i:Int)<(Y9 l u:Int))=false:=Ao Aa
  generalize Y9 l u=n at a b
  refine acQ 27 Tryz.func355 rfl rfl fun _ _ _=> ?_
  (repeat'((conv=>whnf);first|refine zB ?_|refine Al a gvQ ?_|exact zE))
section
variable {C:Cx} {o:Oper} {σ:AS} {t:Nat}
end
def lst (s:Nat):Nat:=(mbr s).getLast?.getD 0
theorem K4 {p:Prop} (h:p:=by first|rfl|(simp only[D8,AV.ren,AV.give,D.un,Ef,D7,D6,Ap,Am,Ak,List.drop];first|done|rfl)):p:=h
theorem OX (l:List UInt8) (u i:Nat) (c:l.length≤1000000) (b:u≤255) (a:i≤100000000):aC 354 [iv i,.d (.cp false [By false l,.v (.int .i64 (u:Int))])] (bv (atB l u i)):=by
 have d:=OW l u i c b a
 refine acQ 7 Tryz.func354 rfl rfl fun _ _ _=> ?_
 (repeat'((conv=>whnf);refine Al d K4 ?_));(all_goals(conv=>whnf))
 all_goals exact zE
theorem vM (f:Nat→Bool):∀i,stN f i<2^i
 |0=>by simp[stN]
 |i+1=>by
  have b:=vM f i
  have a:2^i≤2^(i+1):=Nat.pow_le_pow_right Aa Aa
  unfold stN
  split
  ·refine Nat.or_lt_two_pow Aa ?_
   rw[Nat.one_shiftLeft]
   exact Nat.pow_lt_pow_right Aa Aa
  ·omega
abbrev orN (m i:Nat):Nat:=m|||(1<<<i)
theorem orI {m:Nat} (b:m<512) (a:i<9):IntKind.i64.wrap ((BitVec.ofInt IntKind.i64.bits (m:Int)|||BitVec.ofInt IntKind.i64.bits ((1<<<i:Nat):Int)).toNat:Int)=((m|||(1<<<i):Nat):Int):=by
 have:∀m:Fin 512,∀i:Fin 9,IntKind.i64.wrap ((BitVec.ofInt IntKind.i64.bits (m.val:Int)|||BitVec.ofInt IntKind.i64.bits ((1<<<i.val:Nat):Int)).toNat:Int)=((m.val|||(1<<<i.val):Nat):Int):=by decide+kernel
 exact this ⟨m,b⟩ ⟨i,a⟩
theorem kt (a:i<9):IntKind.i64.wrap (1*2^(min ((i:Nat):Int).toNat IntKind.i64.bits))=((1<<<i:Nat):Int):=by
 have:∀i:Fin 9,IntKind.i64.wrap (1*2^(min ((i.val:Nat):Int).toNat IntKind.i64.bits))=((1<<<i.val:Nat):Int):=by decide+kernel
 exact this ⟨i,a⟩
def m4:Option Nat→AV
 |some s=> .tup [iv s,iv 0]
 |none=> .tup [iv 0,iv 6]
theorem cS (c:List UInt8) (J:c.length≤1000000):aC 279 [.d (By false c),iv 9] (m4 (Wv c)):=by
 have g:=Qs c J
 have p:dcB c=none→Wv c=none→aC 279 [.d (By false c),iv 9] (m4 (Wv c)):=fun L N=>by
  rw[L] at g
  rw[N]
  have e:=X6 [] 0 Ab Aa
  have e:aC 353 [.agg [Ff,iv 0]] (iv 0):=e.les (Pm (show Sp [.agg [Ff,iv 0]] [btA [] 0] by exact J6))
  refine acQ 57 Tryz.func279 rfl rfl fun _ _ _=> ?_
  (repeat'((conv=>whnf);first|refine zY ?_|refine Al g K4 ?_|refine Al e rfl ?_|exact zE))
 cases c with
 |nil=>exact p rfl rfl
 |cons u l=>
  simp only[D9] at J
  have T:=u.toNat_lt
  have K:dcB (u::l)=if Jd l u.toNat=true then some (l,u.toNat) else none:=rfl
  have I:Wv (u::l)=if Jd l u.toNat=true∧8*l.length-u.toNat≤9∧(0<8*l.length-u.toNat→Me l (8*l.length-u.toNat-1)=true) then some (stN (Me l) (8*l.length-u.toNat)) else none:=rfl
  cases v:Jd l u.toNat
  ·exact p (by rw[K,v];rfl) (by rw[I,v,Ai Ab])
  clear p
  rw[K,Aj v] at g
  have g:aC 46 [.d (By false (u::l))] (.tup [.agg [.d (By true l),iv u.toNat],iv 0]):=g
  rw[I]
  have e:=X6 l u.toNat Aa Aa
  have z:Y9 l u.toNat=8*l.length-u.toNat:=by unfold Y9;rw[Aj v]
  have H:=fun i y=>OX l u.toNat i Aa Aa y
  have f:∀i,i<8*l.length-u.toNat→atB l u.toNat i=Me l i:=fun i y=>by
   unfold atB
   rw[z,Aq y,Cd]
  rw[z] at e
  generalize R:8*l.length-u.toNat=n at e f⊢
  by_cases A:n≤9
  ·have M:decide ((n:Int)>9)=false:=Ao Aa
   by_cases Q:n=0
   ·have O:decide ((n:Int)>0)=false:=Ao Aa
    rw[Aj ⟨v,A,fun h=>Bg h Aa⟩]
    refine acQ 57 Tryz.func279 rfl rfl fun _ _ _=> ?_
    (repeat'((conv=>whnf);first|refine zB ?_|refine Al g K4 ?_|refine Al e K4 ?_));(all_goals(conv=>whnf))
    refine Fh (fun i:Nat=>i≤n) (fun i=>n-i) (fun i=>⟨[(9,.cl 354 [] [.d (.cp false [By true l,.v (.int .i64 (u.toNat:Int))])]),(10,iv (stN (Me l) i)),(44,iv n),(45,iv i)],[],[]⟩) 0 Aa leQ ?_
    intro i y
    by_cases k:i<n
    ·have B:decide ((i:Int)<n)=true:=Aq Aa
     have a:=H i Aa
     rw[f i k] at a
     have r:=vM (Me l) i
     have F:2^i≤2^8:=Nat.pow_le_pow_right Aa Aa
     have E:=kt (i:=i) Aa
     have x:=orI (m:=stN (Me l) i) (i:=i) Aa Aa
     have d:stN (Me l) (i+1)=if Me l i=true then stN (Me l) i|||(1<<<i) else stN (Me l) i:=rfl
     generalize stN (Me l) i=q at r x d
     cases j:Me l i
     ·rw[j] at a
      rw[j,Ai Ab] at d
      (repeat'((conv=>whnf);first|refine zB ?_|refine Al a K4 ?_|refine zI ?_));(all_goals(conv=>whnf))
      refine⟨i+1,Aa,Aa,?_⟩
      rw[d]
      exact leQ
     ·rw[j] at a
      rw[j,Aj rfl] at d
      (repeat'((conv=>whnf);first|refine zB ?_|refine Al a K4 ?_|refine NInt.as (((1<<<i:Nat):Int)) (E) ?_|refine NInt.as (((orN q i:Nat):Int)) (x) ?_|refine zI ?_|refine Fv (by first|decide|omega|(simp only[D9,Ax];omega)) ?_));(all_goals(conv=>whnf))
      refine⟨i+1,Aa,Aa,?_⟩
      rw[d]
      exact leQ
    ·have B:decide ((i:Int)<n)=false:=Ao Aa
     obtain rfl:i=n:=Aa
     (repeat'((conv=>whnf);refine zN ?_));(all_goals(conv=>whnf))
     all_goals exact zE
   ·have O:decide ((n:Int)>0)=true:=Aq Aa
    have b:=H (n-1) Aa
    rw[f (n-1) Aa] at b
    cases w:Me l (n-1)
    ·rw[Ai (by rintro⟨-,-,h⟩;have:=h Aa;simp at this)]
     rw[w] at b
     refine acQ 57 Tryz.func279 rfl rfl fun _ _ _=> ?_
     (repeat'((conv=>whnf);first|refine zB ?_|refine Al g K4 ?_|refine Al e K4 ?_|refine NInt.as (((n-1:Nat):Int)) ((by rw[Bl _ Aa];omega)) ?_|refine Al b K4 ?_|exact zE))
    ·rw[Aj ⟨v,A,fun _=>rfl⟩]
     rw[w] at b
     refine acQ 57 Tryz.func279 rfl rfl fun _ _ _=> ?_
     (repeat'((conv=>whnf);first|refine zB ?_|refine Al g K4 ?_|refine Al e K4 ?_|refine NInt.as (((n-1:Nat):Int)) ((by rw[Bl _ Aa];omega)) ?_|refine Al b K4 ?_));(all_goals(conv=>whnf))
     refine Fh (fun i:Nat=>i≤n) (fun i=>n-i) (fun i=>⟨[(9,.cl 354 [] [.d (.cp false [By true l,.v (.int .i64 (u.toNat:Int))])]),(10,iv (stN (Me l) i)),(44,iv n),(45,iv i)],[],[]⟩) 0 Aa leQ ?_
     intro i y
     by_cases k:i<n
     ·have B:decide ((i:Int)<n)=true:=Aq Aa
      have a:=H i Aa
      rw[f i k] at a
      have r:=vM (Me l) i
      have F:2^i≤2^8:=Nat.pow_le_pow_right Aa Aa
      have E:=kt (i:=i) Aa
      have x:=orI (m:=stN (Me l) i) (i:=i) Aa Aa
      have d:stN (Me l) (i+1)=if Me l i=true then stN (Me l) i|||(1<<<i) else stN (Me l) i:=rfl
      generalize stN (Me l) i=q at r x d
      cases j:Me l i
      ·rw[j] at a
       rw[j,Ai Ab] at d
       (repeat'((conv=>whnf);first|refine zB ?_|refine Al a K4 ?_|refine zI ?_));(all_goals(conv=>whnf))
       refine⟨i+1,Aa,Aa,?_⟩
       rw[d]
       exact leQ
      ·rw[j] at a
       rw[j,Aj rfl] at d
       (repeat'((conv=>whnf);first|refine zB ?_|refine Al a K4 ?_|refine NInt.as (((1<<<i:Nat):Int)) (E) ?_|refine NInt.as (((orN q i:Nat):Int)) (x) ?_|refine zI ?_|refine Fv (by first|decide|omega|(simp only[D9,Ax];omega)) ?_));(all_goals(conv=>whnf))
       refine⟨i+1,Aa,Aa,?_⟩
       rw[d]
       exact leQ
     ·have B:decide ((i:Int)<n)=false:=Ao Aa
      obtain rfl:i=n:=Aa
      (repeat'((conv=>whnf);refine zN ?_));(all_goals(conv=>whnf))
      all_goals exact zE
  ·have M:decide ((n:Int)>9)=true:=Aq Aa
   rw[Ai (fun h=>A h.2.1)]
   refine acQ 57 Tryz.func279 rfl rfl fun _ _ _=> ?_
   (repeat'((conv=>whnf);first|refine zB ?_|refine Al g K4 ?_|refine Al e K4 ?_|exact zE))
def eT (c:List UInt8):AV:=if c=[255] then .tup [bv true,iv 0] else if c=[0] then .tup [bv false,iv 0] else .tup [bv false,iv 6]
theorem cT (c:List UInt8) (f:c.length≤1000000000):aC 150 [.d (By false c)] (eT c):=by
 match c,f with
 |[],_=>
  show Es _ _ _ (fun r=>r= .tup [bv false,iv 6])
  refine acQ 23 Tryz.func150 rfl rfl fun _ _ _=> ?_
  (repeat'((conv=>whnf);refine Ej ?_));(all_goals(conv=>whnf))
  all_goals exact zE
 |[x],_=>
  have a:([x]:List UInt8)[0]?=some x:=rfl
  have m:=x.toNat_lt
  by_cases b:x=0
  ·subst b
   show Es _ _ _ (fun r=>r= .tup [bv false,iv 0])
   refine acQ 23 Tryz.func150 rfl rfl fun _ _ _=> ?_
   (repeat'((conv=>whnf);first|refine Ee ?_|refine NIdx.bytes a ?_|exact zE))
  ·by_cases d:x=255
   ·subst d
    show Es _ _ _ (fun r=>r= .tup [bv true,iv 0])
    refine acQ 23 Tryz.func150 rfl rfl fun _ _ _=> ?_
    (repeat'((conv=>whnf);first|refine zY ?_|refine NIdx.bytes a ?_|exact zE))
   ·have e:eT [x]= .tup [bv false,iv 6]:=by
     unfold eT
     rw[Ai (by simpa using d),Ai (by simpa using b)]
    have k:((x.toNat:Int) !=0)=true:=by rw[Av];intro h;exact b (B8.1 (show x.toNat=0 by omega))
    have g:((x.toNat:Int) !=255)=true:=by rw[Av];intro h;exact d (B8.1 (show x.toNat=255 by omega))
    rw[e]
    refine acQ 23 Tryz.func150 rfl rfl fun _ _ _=> ?_
    (repeat'((conv=>whnf);first|refine zB ?_|refine NIdx.bytes a ?_|exact zE))
 |x::y::r,f=>
  have e:eT (x::y::r)= .tup [bv false,iv 6]:=by
   unfold eT
   rw[Ai Ab,Ai Ab]
  have j:((((x::y::r).length:Nat):Int) !=1)=true:=by rw[Av];simp only[D9];omega
  rw[e]
  refine acQ 23 Tryz.func150 rfl rfl fun _ _ _=> ?_
  (repeat'((conv=>whnf);first|refine zB ?_|exact zE))
end Go.Proofs.YtbedjionhmaafaaGreatDoor
