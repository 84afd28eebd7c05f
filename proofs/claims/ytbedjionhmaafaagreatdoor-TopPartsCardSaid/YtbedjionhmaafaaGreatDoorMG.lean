/- MG: the texts Under Sub Fin LaidL Few Opn OpnG, one behind the other. No condition but what each lemma says. -/
import Derived.Test.YtbedjionhmaafaaGreatDoorME
import Derived.Test.YtbedjionhmaafaaGreatDoorRows
import Derived.ProofKit
import Derived.LaidMore
import Derived.Lay
import Derived.OpenShut
import Derived.PinnedBridge
import Derived.Lib.LaidU8T
import Derived.Lib.LaidIn
import Derived.LaidHandle
import Derived.Stop.Joined
import Derived.Shelf.Vars
import Derived.HandedShaped
import Derived.ChangeArms
import Derived.Lib.SmallJoins
import Derived.SevenTiedAt
import Derived.WideKeyArgs
set_option linter.all false
set_option maxRecDepth 100000
set_option maxHeartbeats 16000000
namespace Go.Proofs.YtbedjionhmaafaaGreatDoor
open Go.RowKit
abbrev sv (l:List UInt8):AV:= .d (.v (.string ⟨⟨l⟩⟩))
theorem dv {W:World} {fp z:Nat→Nat→Prop} {w':World} {b:Bool} {v:Value} (h:aG W fp z w' (bv b) v):v= .bool b:=by
 obtain⟨-,fp,gt,z,-,h,-⟩:=h
 cases h with
 |d h=>cases h;rfl
end Go.Proofs.YtbedjionhmaafaaGreatDoor
namespace Go.Proofs.YtbedjionhmaafaaGreatDoor
open Go.ChangeShapes Go.WideShapes Go.ChangeAt Go.RowKit
theorem uE {H:Type} {enc:TypeId×Value→H} {a:Assume} {C:Checked} {os:Os} {f:FuncId} {q:Func} {s:ChangeSpec} {m:List PathCond} {b p g o:Bool} {X:World→Array Value→Prop}
 (N:∀(w w':World) (args:Array Value),w.heap=w'.heap→X w args→X w' args)
 (own:ownKnob C.prog.godebug=none) (l:os.Started) (r:C.prog.inits.idxOf? f=none) (I:C.prog.funcs[f]?=some q)
 (k:∃(w:World) (c:Tape) (i:Input),w.os=os∧(w.forCall c i).Shaped C.prog∧i.vars=[]∧Input.okWide C.prog (w.forCall c i) .any w.heap.size f i∧
   ((s.pre enc C.prog q m b (w.forCall c i).memory i.args∧X (w.forCall c i).memory i.args)∧sizedMet enc C.prog q (OpenSpec.ofChange s) b (w.forCall c i).memory i.args)∧a.holds C.prog (lone (Frame.enter C.prog f i.args .normal) [] (w.forCall c i)))
 (h:∀(W:World) (u:Nat) (args:Array Value) (ds F:List (DataW H)) (d:List MemPlace),
   (∀(j:Nat) t v,q.params[j]?=some t→args[j]?=some v→Value.okWide C.prog W .any u t v)→
   DataW.Whole enc C.prog q.params.toList s.vars b W args.toList ds F d→W.ShapedOpen C.prog→X W args→
   Calls C.prog f args W fun e L=>∃v,e= .returned v∧s.post enc C.prog q b p g o W args v L):
 ReturnsInHanded a C os f .any (fun w args=>(s.pre enc C.prog q m b w args∧X w args)∧sizedMet enc C.prog q (OpenSpec.ofChange s) b w args) (s.post enc C.prog q b p g o):=by
 refine returnsInHanded_of_calls own l r k ?_
 intro w c i _ B _ J x A
 obtain⟨_,_,_,K,z,_,_,_,_,y⟩:=J
 have e:K=q:=Az (z.symm.trans I)
 subst e
 obtain⟨⟨⟨ds,F,d,O,Q⟩,M⟩,P⟩:=x
 have E:=DataW.Whole.of_heap (w':=w.forCall c i) Ah O
 refine(h (w.forCall c i) w.heap.size i.args ds F d y E B (N _ _ _ Ah M)).mono fun e L ⟨v,T,R⟩=> ?_
 grind [ChangeSpec.post_blind]
theorem own:ownKnob Tryz.prog.godebug=none:=Ac
def Rv:List (String×DataW Unit):=[("math/bits.deBruijn32tab",Rows.laid_math_bits_deBruijn32tab),("math/bits.deBruijn64tab",Rows.laid_math_bits_deBruijn64tab),("internal/strconv.uint64pow10",Rows.laid_internal_strconv_uint64pow10),("unicode/utf8.acceptRanges",Rows.laid_unicode_utf8_acceptRanges),("strconv.ErrRange",Rows.laid_strconv_ErrRange),("strconv.ErrSyntax",Rows.laid_strconv_ErrSyntax),("unicode/utf8.first",Rows.laid_unicode_utf8_first)]
theorem MK (os:Os) (args:Array Value):laidMetH Tryz.prog Rv ((World.laidAll Tryz.prog os Rv).forCall (fun _ _=>0) ⟨#[],args,[]⟩).memory:=by
 rw[MakeChecks.laidMetH_plain _ _ _ Ac]
 exact laidMet_laidAll _ Ac Ac
theorem yB {w:World} {n q:String} {d:DataW Unit} {g t:Nat} {s:Array (String×TypeId)} (k:Tryz.prog.globalNamed n=some g) (f:(Tryz.prog.globals[g]?).map (·.type)=some t) (j:Tryz.prog.underlying t=some (.interface s)) (h:Lib.VarReads Tryz.prog w n (.iface q d)):CP g w:=by
 obtain⟨x,y,cs,e,p,u,o,m,c⟩:=h
 obtain rfl:=Az (k.symm.trans u)
 obtain rfl:=Az (f.symm.trans o)
 cases e with
 |zero=>simp[DataW.trod] at c
 |succ e=>
  obtain⟨l⟩:=cs
  have i:=World.var?_cell k m 0
  match l,c,i with
  |[],c,_=>simp[DataW.trod,j] at c
  |[v],c,i=>
   refine⟨v,by simpa using i,?_⟩
   cases v<;>first|exact .inr ⟨_,_,rfl⟩|(simp[DataW.trod,j] at c;done)
  |a::b::r,c,_=>simp[DataW.trod,j] at c
theorem ML {w:World} {n:String} {k:IntKind} {f:List Int} {g t e:TypeId} {m:Nat} (q:Tryz.prog.globalNamed n=some g) (b:(Tryz.prog.globals[g]?).map (·.type)=some t) (l:Tryz.prog.underlying t=some (.array m e)) (s:Tryz.prog.underlying e=some (.int k)) (c:Tryz.prog.cellsOf e=1) (a:Tryz.prog.cellsOf t=m) (h:Lib.VarReads Tryz.prog w n (Lib.tabData k f)):Lib.TabIs Tryz.prog w n k f:=by
 obtain⟨u,v,cs,d,p,r,j,i,o⟩:=h
 obtain rfl:=Az (q.symm.trans r)
 obtain rfl:=Az (b.symm.trans j)
 unfold Lib.TabIs
 rw[i,←Lib.cells_of_tab l s c a o]
theorem ET:(Rows.laid_unicode_utf8_acceptRanges:DataW Unit)=Lib.acceptData:=Ac
theorem dw:(Rows.laid_internal_strconv_uint64pow10:DataW Unit)=Lib.tabData .u64 Lib.pow10Tab:=Ac
theorem uF {W:World} (a:W.ShapedOpen Tryz.prog) (h:laidMetH Tryz.prog Rv W):Gd W:=by
 rw[MakeChecks.laidMetH_plain _ _ _ Ac] at h
 have c:=Lib.laidMet.reads h (n:= "internal/strconv.uint64pow10") (d:=Rows.laid_internal_strconv_uint64pow10) (by simp[Rv])
 have f:=Lib.laidMet.reads h (n:= "unicode/utf8.acceptRanges") (d:=Rows.laid_unicode_utf8_acceptRanges) (by simp[Rv])
 have i:=Lib.laidMet.reads h (n:= "strconv.ErrRange") (d:=Rows.laid_strconv_ErrRange) (by simp[Rv])
 have j:=Lib.laidMet.reads h (n:= "strconv.ErrSyntax") (d:=Rows.laid_strconv_ErrSyntax) (by simp[Rv])
 have b:=Lib.laidMet.reads h (n:= "unicode/utf8.first") (d:=Rows.laid_unicode_utf8_first) (by simp[Rv])
 rw[ET] at f
 rw[dw] at c
 rw[show(Rows.laid_unicode_utf8_first:DataW Unit)=Lib.firstData from Pinned.utf8First_eq] at b
 exact⟨utf8Tabs_of_readsT (U8Types.of196 Tryz.laysValid) ⟨Ac,Ac,Ac,Ac,Ac,Ac,Ac⟩ b f,
  ML (g:=0) (t:=519) (e:=213) (m:=20) Ac Ac Tryz.underlying519 Tryz.underlying213 Ac Ac c,
  yB (g:=2) (t:=320) Ac Ac Tryz.underlying320 j,
  yB (g:=3) (t:=320) Ac Ac Tryz.underlying320 i,
  cell_of_shapedOpen_int (zero:=#[.int .i64 0]) (t:=3) a (of_decide_eq_true Ac) Ac rfl Ac Ac Tryz.underlying3⟩
end Go.Proofs.YtbedjionhmaafaaGreatDoor
namespace Go.Proofs.YtbedjionhmaafaaGreatDoor
open Go.RowKit
end Go.Proofs.YtbedjionhmaafaaGreatDoor
namespace Go.Proofs.YtbedjionhmaafaaGreatDoor
open Go.ChangeShapes Go.WideShapes Go.ChangeAt Go.RowKit Go.Joins
variable {w W:World} {n:Nat}
def yC (w:World) (b _o:Nat):Prop:=b<w.heap.size
structure RdsW (w:World) (ds:List D) (cs:List Value):Prop where
 len:ds.length=cs.length
 one:∀u∈cs,u.oneCell'=true
 rd:∀(i:Nat) d u,ds[i]?=some d→cs[i]?=some u→Rd w.heap.size (yC w) w d u
theorem RdsW.nil (w:World):RdsW w [] []:=⟨rfl,fun _ h=>(by cases h),fun i _ _ h=>(by simp at h)⟩
theorem RdsW.single {d:D} {u:Value} (e:u.oneCell'=true) (h:Rd w.heap.size (yC w) w d u):RdsW w [d] [u]:=
 ⟨rfl,fun v c=>by simp at c;subst c;exact e,fun i g f a b=>by
   cases i with
   |zero=>simp at a b;subst a b;exact h
   |succ i=>simp at a⟩
theorem RdsW.append {ds f:List D} {cs vs:List Value} (h:RdsW w ds cs) (e:RdsW w f vs):RdsW w (ds++f) (cs++vs):=by
 refine⟨by simp[h.len,e.len],fun u a=> ?_,fun i d u c a=> ?_⟩
 ·rcases Cm.1 a with a|a
  ·exact h.one u a
  ·exact e.one u a
 ·rcases Nat.lt_or_ge i ds.length with b|b
  ·rw[Bu b] at c
   rw[Bu (by rw[←h.len];exact b)] at a
   exact h.rd i d u c a
  ·rw[Bw b] at c
   rw[Bw (by rw[←h.len];exact b),←h.len] at a
   exact e.rd _ d u c a
def Op {α:Type} (t:TypeId) (n:Nat) (C:α→List D) (ok:α→Prop):Prop:=
 ∀{H:Type} (enc:TypeId×Value→H) (w:World) (fuel:Nat) (cs:List Value) (x:DataW H×List MemPlace),DataW.trod enc Tryz.prog w 0 (fun _=>true) true fuel t cs=some x→∃a,ok a∧cs.length=n∧RdsW w (C a) cs
theorem dx {t:TypeId} {k:IntKind} (b:Tryz.prog.underlying t=some (.int k)):Op t 1 (fun n:Int=>[.v (.int k n)]) (fun n=>(Lit.int k n).wf=true):=by
 intro H enc w a cs x h
 obtain⟨n,rfl,rfl,c⟩:=DataW.trod_int b h
 exact⟨n,c,rfl,.single rfl (.v _)⟩
theorem MN {ds:List (List D)} {cs:List (List Value)} (f:ds.length=cs.length) (l:∀c∈cs,c.length=n) (h:∀(i:Nat) d c,ds[i]?=some d→cs[i]?=some c→RdsW w d c):
 RdsW w ds.flatten cs.flatten∧cs.flatten.length=cs.length*n∧∀i,i<cs.flatten.length→∃c,cs[i/n]?=some c∧cs.flatten[i]?=c[i%n]?∧i%n<n∧i/n<cs.length:=by
 induction cs generalizing ds with
 |nil=>
  have:ds=[]:=Cw.1 (by simpa using f)
  subst this
  exact⟨.nil w,Ab,fun i g=>by simp at g⟩
 |cons c r s=>
  match ds,f with
  |d::ds,f=>
   obtain⟨q,p,t⟩:=s (ds:=ds) (by simpa using f) (fun c b=>l c (by simp[b])) (fun i d c u b=>h (i+1) d c (by simpa using u) (by simpa using b))
   have b:=l c Ab
   refine⟨?_,?_,fun i g=> ?_⟩
   ·rw[Cq,Cq]
    exact(h 0 d c rfl rfl).append q
   ·simp only[Cq,En,D9,p,b,C7,Dp];omega
   ·rw[Cq,En] at g
    rcases Nat.lt_or_ge i n with a|a
    ·refine⟨c,by rw[Nat.div_eq_of_lt a];rfl,?_,Nat.mod_lt _ Aa,by rw[Nat.div_eq_of_lt a];simp⟩
     rw[Cq,Bu Aa,Nat.mod_eq_of_lt a]
    ·have j:0<n:=by
      rcases Nat.eq_zero_or_pos n with k|k
      ·subst k
       rw[p,Nat.mul_zero] at g;omega
      ·exact k
     obtain⟨c',v,x,k3,y⟩:=t (i-n) Aa
     have e:i=(i-n)+n:=Aa
     have o:i/n=(i-n)/n+1:=by rw[e,Nat.add_div_right _ j,Cj]
     have m:i%n=(i-n)%n:=by rw[e,Nat.add_mod_right,Cj]
     refine⟨c',by rw[o];exact v,?_,by rw[m];exact k3,by rw[o,D9];omega⟩
     rw[Cq,Bw Aa,b,m];exact x
theorem MO {k l:Type} {p:Nat→k→l→Prop} (h:∀i,i<n→∃a c,p i a c):∃(f:List k) (cs:List l),f.length=n∧cs.length=n∧∀(i:Nat) a c,f[i]?=some a→cs[i]?=some c→p i a c:=by
 induction n with
 |zero=>exact⟨[],[],rfl,rfl,fun i a c h=>by cases h⟩
 |succ n q=>
  obtain⟨f,cs,j,m,r⟩:=q fun i g=>h i Aa
  obtain⟨a,c,o⟩:=h n Aa
  refine⟨f++[a],cs++[c],by simp[j],by simp[m],fun i s c' b d=> ?_⟩
  rcases Nat.lt_or_ge i n with g|g
  ·rw[Bu Aa] at b d
   exact r i s c' b d
  ·rw[Bw Aa] at b d
   rw[j] at b;rw[m] at d
   have:i=n:=by
    rcases Nat.eq_or_lt_of_le g with e|e
    ·exact e.symm
    ·rw[D1 Af] at b;cases b
   subst this
   simp at b d;subst b d;exact o
theorem MP {B:Type} {t e:TypeId} {C:B→List D} {K:B→Prop} (Z:Tryz.prog.underlying t=some (.slice e)) (p:Tryz.prog.cellsOf e=n) (M:Op e n C K):
 Op t 1 (fun l:List B=>[J5 false n C l]) (fun l=>l.length≤big∧∀a∈l,K a):=by
 intro H enc w X cs x h
 rcases DataW.trod_slice Z h with⟨rfl,-⟩|⟨a,O,cap,L,rest,m,rfl,rfl,-,-,V,T,R,q,-,-⟩
 ·refine⟨[],⟨by simp[big],fun a h=>by cases h⟩,rfl,.single rfl ?_⟩
  exact .sl [] (At _) (Nat.zero_le _) Ab rfl (fun _=>rfl) (fun u b=>by cases b) (fun i d u o=>by simp at o) (fun i u b=>by cases b)
 ·rw[p] at q
  have hp:∀i,i<O→∃(k:B) (c:List Value),(w.cells? 0 (a.add (i*n)) n=some c∧K k∧c.length=n∧RdsW w (C k) c):=by
   intro i g
   have P:=q i g
   rw[Ev Aa] at P
   obtain⟨c,h2,h3⟩:=Option.bind_eq_some_iff.1 P
   obtain⟨k,J,N,k3⟩:=M enc w m c _ h3
   exact⟨k,c,h2,J,N,k3⟩
  obtain⟨A,j,s,Q,z⟩:=MO hp
  have I:∀c∈j,c.length=n:=fun c p=>by
   obtain⟨i,g⟩:=List.mem_iff_getElem?.1 p
   have:=(Ew.1 g).1
   exact(z i _ c (Ev Aa) g).2.2.1
  obtain⟨y,Y,r3⟩:=MN (w:=w) (n:=n) (ds:=A.map C) (cs:=j) (by simp[s,Q]) I (fun i d c o p=>by
   rw[Bk,A8] at o
   obtain⟨k,E,rfl⟩:=o
   exact(z i k c E p).2.2.2)
  refine⟨A,⟨by rw[s];exact Bi V T,fun k E=> ?_⟩,rfl,.single rfl ?_⟩
  ·obtain⟨i,g⟩:=List.mem_iff_getElem?.1 E
   have:=(Ew.1 g).1
   exact(z i k _ g (Ev Aa)).2.1
  ·have f:∀i u,j.flatten[i]?=some u→w.cell? ((a.add (i/n*n)).add (i%n))=some u∧i/n*n+i%n=i:=fun i u b=>by
    have g:=(Ew.1 b).1
    obtain⟨c,J,N,k3,k4⟩:=r3 i g
    have r:=(z (i/n) _ c (Ev Aa) J).1
    have:=(World.cells?_some r).2.2 (i%n) k3
    rw[N] at b
    rw[b] at this
    exact⟨this,by rw[Dv];exact Nat.div_add_mod i n⟩
   have F:(A.flatMap C).length=A.length*n:=by
    rw[List.flatMap_def,y.len,Y,s,Q]
   rw[←s]
   refine .sl j.flatten (by rw[s];exact V) T F (by rw[List.flatMap_def];exact y.len.symm) (fun h=>by cases h) y.one (fun i d u o b=> ?_) (fun i u b=> ?_)
   ·rw[List.flatMap_def] at o
    exact y.rd i d u o b
   ·obtain⟨ab,ao,v⟩:=a
    have hs:v=none:=by
     have g:=(Ew.1 b).1
     have U:=(f 0 _ (Ev Aa)).1
     rw[Nat.zero_div,Nat.zero_mod,Nat.zero_mul] at U
     simpa[Addr.add] using World.cell?_spot U
    subst hs
    obtain⟨r,M⟩:=f i u b
    rw[Addr.add_lit,Addr.add_lit,C8,M] at r
    exact⟨ab,ao,rfl,World.block_lt_of_cell? w _ r,fun h=>(by cases h),r⟩
theorem dy (l:List UInt8):J5 false 1 (fun y:UInt8=>[D.v (.int .u8 y.toNat)]) l=By false l:=by
 have:l.flatMap (fun y:UInt8=>[D.v (.int .u8 y.toNat)])=Fj l:=by
  unfold Fj
  induction l with
  |nil=>rfl
  |cons x r a=>simp only[A4,Bc,a];rfl
 unfold By
 rw[←this]
theorem ju:Op 5 1 (fun y:UInt8=>[.v (.int .u8 y.toNat)]) (fun _=>True):=by
 intro H enc w a cs x h
 obtain⟨n,b,d,c⟩:=dx (k:= .u8) Tryz.underlying5 enc w a cs x h
 have e:0≤n∧n≤255:=by
  simp only[Lit.wf,Et,A3] at b
  exact b
 refine⟨UInt8.ofNat n.toNat,trivial,d,?_⟩
 have:((UInt8.ofNat n.toNat).toNat:Int)=n:=by
  rw[B6];omega
 show RdsW w [.v (.int .u8 (UInt8.ofNat n.toNat).toNat)] cs
 rw[this];exact c
theorem MQ:Op 22 1 (fun l:List UInt8=>[By false l]) (fun l=>l.length≤big):=by
 intro H enc w a cs x h
 obtain⟨l,⟨b,-⟩,d,c⟩:=MP Tryz.underlying22 Ac ju enc w a cs x h
 exact⟨l,b,d,by show RdsW w [By false l] cs;rw[←dy];exact c⟩
structure Gn.wf (g:Gn):Prop where
 ok:g.ok
 k:(Lit.int .i64 g.k).wf=true
 ak:(Lit.int .i64 g.ak).wf=true
 pk:(Lit.int .i64 g.pk).wf=true
abbrev ARA (W:World):AV→Value→Prop:=RA W.heap.size (yC W) W ⟨fun _=>0,fun _ _=>False⟩ (fun _=>undef)
theorem VQ {g:Type} {t:TypeId} {c:g→D} {f:g→Prop} (e:Op t 1 (fun a=>[c a]) f) {H:Type} {enc:TypeId×Value→H} {v:Value} {d:DataW H} {p:List MemPlace}
 (k:v.cells.toList=[v]) (h:DataW.Trod enc Tryz.prog W 0 (fun _=>true) true t v d p):∃a,f a∧ARA W (.d (c a)) v:=by
 obtain⟨b,i⟩:=h
 obtain⟨a,j,-,k3⟩:=e enc W b _ _ i
 rw[k] at k3
 exact⟨a,j,.d (k3.rd 0 _ _ rfl rfl)⟩
theorem EU {t e:TypeId} (d:Tryz.prog.underlying t=some (.slice e)) {b:Nat} {v:Value} (f:Value.okWide Tryz.prog W .any b t v):v.cells.toList=[v]:=by
 obtain⟨a,l,c,rfl⟩:=okWide_slice d f;rfl
theorem VR:laidOutB Tryz.prog=true:=Ac
theorem VS {H:Type} {enc:TypeId×Value→H} {t:TypeId} (b:t<Tryz.prog.types.size) (h:Tryz.prog.readableRec t=true) {e:World} {v1:Value} {f:DataW H} {c:List MemPlace} (g:DataW.Trod enc Tryz.prog W 0 (fun _=>true) true t v1 f c) (i:Below W.heap.size W e) (a:∀x∈c,x.block<W.heap.size):
 DataW.Trod enc Tryz.prog e 0 (fun x=>decide (x<W.heap.size)) true t v1 f c:=
 WideElems.Trod_stays (P:=Tryz.prog) VR h b g (fun x d=>i.same (a x d)) (fun x d=>by simpa using a x d)
end Go.Proofs.YtbedjionhmaafaaGreatDoor
