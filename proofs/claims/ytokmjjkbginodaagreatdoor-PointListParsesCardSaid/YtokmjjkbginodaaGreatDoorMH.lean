/- MH: the texts Few Opn OpnG, one behind the other. No condition but what each lemma says. -/
import Derived.Test.YtokmjjkbginodaaGreatDoorMG
import Derived.ChangeArms
import Derived.Lib.SmallJoins
import Derived.SevenTiedAt
import Derived.WideKeyArgs
set_option maxRecDepth 100000
set_option maxHeartbeats 16000000
namespace Go.Proofs.YtokmjjkbginodaaGreatDoor
open Go.RowKit
end Go.Proofs.YtokmjjkbginodaaGreatDoor
namespace Go.Proofs.YtokmjjkbginodaaGreatDoor
open Go.ChangeShapes Go.WideShapes Go.ChangeAt Go.RowKit Go.Joins
def eQ (w:World) (b _o:Nat):Prop:=b<w.heap.size
structure RdsW (w:World) (ds:List D) (cs:List Value):Prop where
 len:ds.length=cs.length
 one:∀u∈cs,u.oneCell'=true
 rd:∀(i:Nat) d u,ds[i]?=some d→cs[i]?=some u→Rd w.heap.size (eQ w) w d u
theorem RdsW.nil (w:World):RdsW w [] []:=⟨rfl,fun _ h=>(by cases h),fun i _ _ h=>(by simp at h)⟩
theorem RdsW.single {w:World} {d:D} {u:Value} (h1:u.oneCell'=true) (h:Rd w.heap.size (eQ w) w d u):RdsW w [d] [u]:=
 ⟨rfl,fun v hv=>by simp at hv;subst hv;exact h1,fun i d' u' hd hu=>by
   cases i with
   |zero=>simp at hd hu;subst hd hu;exact h
   |succ i=>simp at hd⟩
theorem RdsW.append {w:World} {ds es:List D} {cs vs:List Value} (h:RdsW w ds cs) (h':RdsW w es vs):RdsW w (ds++es) (cs++vs):=by
 refine⟨by simp[h.len,h'.len],fun u hu=> ?_,fun i d u hd hu=> ?_⟩
 ·rcases List.mem_append.1 hu with hu|hu
  ·exact h.one u hu
  ·exact h'.one u hu
 ·rcases Nat.lt_or_ge i ds.length with hi|hi
  ·rw[List.getElem?_append_left hi] at hd
   rw[List.getElem?_append_left (by rw[←h.len];exact hi)] at hu
   exact h.rd i d u hd hu
  ·rw[List.getElem?_append_right hi] at hd
   rw[List.getElem?_append_right (by rw[←h.len];exact hi),←h.len] at hu
   exact h'.rd _ d u hd hu
def Op {α:Type} (t:TypeId) (n:Nat) (C:α→List D) (ok:α→Prop):Prop:=
 ∀{H:Type} (enc:TypeId×Value→H) (w:World) (fuel:Nat) (cs:List Value) (x:DataW H×List MemPlace),DataW.trod enc Tryz.prog w 0 (fun _=>true) true fuel t cs=some x→∃a,ok a∧cs.length=n∧RdsW w (C a) cs
theorem LO {t:TypeId} {k:IntKind} (ht:Tryz.prog.underlying t=some (.int k)):Op t 1 (fun n:Int=>[.v (.int k n)]) (fun n=>(Lit.int k n).wf=true):=by
 intro H enc w fuel cs x h
 obtain⟨n,rfl,rfl,hw⟩:=DataW.trod_int ht h
 exact⟨n,hw,rfl,.single rfl (.v _)⟩
theorem zG {w:World} {n:Nat} {ds:List (List D)} {cs:List (List Value)} (hl:ds.length=cs.length) (hn:∀c∈cs,c.length=n) (h:∀(i:Nat) d c,ds[i]?=some d→cs[i]?=some c→RdsW w d c):
 RdsW w ds.flatten cs.flatten∧cs.flatten.length=cs.length*n∧∀i,i<cs.flatten.length→∃c,cs[i/n]?=some c∧cs.flatten[i]?=c[i%n]?∧i%n<n∧i/n<cs.length:=by
 induction cs generalizing ds with
 |nil=>
  have:ds=[]:=List.length_eq_zero_iff.1 (by simpa using hl)
  subst this
  exact⟨.nil w,by simp,fun i hi=>by simp at hi⟩
 |cons c r ih=>
  match ds,hl with
  |d::ds,hl=>
   obtain⟨h1,h2,h3⟩:=ih (ds:=ds) (by simpa using hl) (fun c hc=>hn c (by simp[hc])) (fun i d c hd hc=>h (i+1) d c (by simpa using hd) (by simpa using hc))
   have hc:=hn c (by simp)
   refine⟨?_,?_,fun i hi=> ?_⟩
   ·rw[List.flatten_cons,List.flatten_cons]
    exact(h 0 d c rfl rfl).append h1
   ·simp only[List.flatten_cons,Ap,Ag,h2,hc,Nat.add_mul,Nat.one_mul];omega
   ·rw[List.flatten_cons,Ap] at hi
    rcases Nat.lt_or_ge i n with hin|hin
    ·refine⟨c,by rw[Nat.div_eq_of_lt hin];rfl,?_,Nat.mod_lt _ (by omega),by rw[Nat.div_eq_of_lt hin];simp⟩
     rw[List.flatten_cons,List.getElem?_append_left (by omega),Nat.mod_eq_of_lt hin]
    ·have hn0:0<n:=by
      rcases Nat.eq_zero_or_pos n with h0|h0
      ·subst h0
       rw[h2,Nat.mul_zero] at hi;omega
      ·exact h0
     obtain⟨c',k1,k2,k3,k4⟩:=h3 (i-n) (by omega)
     have e:i=(i-n)+n:=by omega
     have e1:i/n=(i-n)/n+1:=by rw[e,Nat.add_div_right _ hn0,Nat.add_sub_cancel]
     have e2:i%n=(i-n)%n:=by rw[e,Nat.add_mod_right,Nat.add_sub_cancel]
     refine⟨c',by rw[e1];exact k1,?_,by rw[e2];exact k3,by rw[e1,Ag];omega⟩
     rw[List.flatten_cons,List.getElem?_append_right (by omega),hc,e2];exact k2
theorem zH {β γ:Type} {n:Nat} {p:Nat→β→γ→Prop} (h:∀i,i<n→∃a c,p i a c):∃(al:List β) (cs:List γ),al.length=n∧cs.length=n∧∀(i:Nat) a c,al[i]?=some a→cs[i]?=some c→p i a c:=by
 induction n with
 |zero=>exact⟨[],[],rfl,rfl,fun i a c h=>by cases h⟩
 |succ n ih=>
  obtain⟨al,cs,h1,h2,h3⟩:=ih fun i hi=>h i (by omega)
  obtain⟨a,c,hp⟩:=h n (by omega)
  refine⟨al++[a],cs++[c],by simp[h1],by simp[h2],fun i a' c' ha hc=> ?_⟩
  rcases Nat.lt_or_ge i n with hi|hi
  ·rw[List.getElem?_append_left (by omega)] at ha hc
   exact h3 i a' c' ha hc
  ·rw[List.getElem?_append_right (by omega)] at ha hc
   rw[h1] at ha;rw[h2] at hc
   have:i=n:=by
    rcases Nat.eq_or_lt_of_le hi with e|e
    ·exact e.symm
    ·rw[List.getElem?_eq_none (by simp;omega)] at ha;cases ha
   subst this
   simp at ha hc;subst ha hc;exact hp
theorem zI {α:Type} {t e:TypeId} {n:Nat} {C:α→List D} {ok:α→Prop} (ht:Tryz.prog.underlying t=some (.slice e)) (hc:Tryz.prog.cellsOf e=n) (he:Op e n C ok):
 Op t 1 (fun l:List α=>[Fb false n C l]) (fun l=>l.length≤big∧∀a∈l,ok a):=by
 intro H enc w fuel cs x h
 rcases DataW.trod_slice ht h with⟨rfl,-⟩|⟨a,len,cap,elems,rest,m,rfl,rfl,-,-,hl,hm,hlen,hel,-,-⟩
 ·refine⟨[],⟨by simp[big],fun a h=>by cases h⟩,rfl,.single rfl ?_⟩
  exact .sl [] (Nat.le_refl _) (Nat.zero_le _) (by simp) rfl (fun _=>rfl) (fun u hu=>by cases hu) (fun i d u hd=>by simp at hd) (fun i u hu=>by cases hu)
 ·rw[hc] at hel
  have hp:∀i,i<len→∃(a':α) (c:List Value),(w.cells? 0 (a.add (i*n)) n=some c∧ok a'∧c.length=n∧RdsW w (C a') c):=by
   intro i hi
   have h1:=hel i hi
   rw[Am (by omega)] at h1
   obtain⟨c,h2,h3⟩:=Option.bind_eq_some_iff.1 h1
   obtain⟨a',k1,k2,k3⟩:=he enc w m c _ h3
   exact⟨a',c,h2,k1,k2,k3⟩
  obtain⟨al,css,l1,l2,l3⟩:=zH hp
  have hcn:∀c∈css,c.length=n:=fun c hc=>by
   obtain⟨i,hi⟩:=List.mem_iff_getElem?.1 hc
   have:=(Aw.1 hi).1
   exact(l3 i _ c (Am (by omega)) hi).2.2.1
  obtain⟨r1,r2,r3⟩:=zG (w:=w) (n:=n) (ds:=al.map C) (cs:=css) (by simp[l1,l2]) hcn (fun i d c hd hc=>by
   rw[List.getElem?_map,Option.map_eq_some_iff] at hd
   obtain⟨a',ha,rfl⟩:=hd
   exact(l3 i a' c ha hc).2.2.2)
  refine⟨al,⟨by rw[l1];exact Nat.le_trans hl hm,fun a' ha=> ?_⟩,rfl,.single rfl ?_⟩
  ·obtain⟨i,hi⟩:=List.mem_iff_getElem?.1 ha
   have:=(Aw.1 hi).1
   exact(l3 i a' _ hi (Am (by omega))).2.1
  ·have hcell:∀i u,css.flatten[i]?=some u→w.cell? ((a.add (i/n*n)).add (i%n))=some u∧i/n*n+i%n=i:=fun i u hu=>by
    have hi:=(Aw.1 hu).1
    obtain⟨c,k1,k2,k3,k4⟩:=r3 i hi
    have hq:=(l3 (i/n) _ c (Am (by omega)) k1).1
    have:=(World.cells?_some hq).2.2 (i%n) k3
    rw[k2] at hu
    rw[hu] at this
    exact⟨this,by rw[Nat.mul_comm];exact Nat.div_add_mod i n⟩
   have r2':(al.flatMap C).length=al.length*n:=by
    rw[List.flatMap_def,r1.len,r2,l1,l2]
   rw[←l1]
   refine .sl css.flatten (by rw[l1];exact hl) hm r2' (by rw[List.flatMap_def];exact r1.len.symm) (fun h=>by cases h) r1.one (fun i d u hd hu=> ?_) (fun i u hu=> ?_)
   ·rw[List.flatMap_def] at hd
    exact r1.rd i d u hd hu
   ·obtain⟨ab,ao,spot⟩:=a
    have hs:spot=none:=by
     have hi:=(Aw.1 hu).1
     have h0:=(hcell 0 _ (Am (by omega))).1
     rw[Nat.zero_div,Nat.zero_mod,Nat.zero_mul] at h0
     simpa[Addr.add] using World.cell?_spot h0
    subst hs
    obtain⟨hq,he⟩:=hcell i u hu
    rw[Addr.add_lit,Addr.add_lit,Nat.add_assoc,he] at hq
    exact⟨ab,ao,rfl,World.block_lt_of_cell? w _ hq,fun h=>(by cases h),hq⟩
theorem LP (l:List UInt8):Fb false 1 (fun y:UInt8=>[D.v (.int .u8 y.toNat)]) l=Af false l:=by
 have:l.flatMap (fun y:UInt8=>[D.v (.int .u8 y.toNat)])=Ak l:=by
  unfold Ak
  induction l with
  |nil=>rfl
  |cons x r ih=>simp only[List.flatMap_cons,List.map_cons,ih];rfl
 unfold Af
 rw[←this]
theorem PF:Op 5 1 (fun y:UInt8=>[.v (.int .u8 y.toNat)]) (fun _=>True):=by
 intro H enc w fuel cs x h
 obtain⟨n,hw,hl,hr⟩:=LO (k:= .u8) Tryz.underlying5 enc w fuel cs x h
 have hn:0≤n∧n≤255:=by
  simp only[Lit.wf,At,decide_eq_true_eq] at hw
  exact hw
 refine⟨UInt8.ofNat n.toNat,trivial,hl,?_⟩
 have:((UInt8.ofNat n.toNat).toNat:Int)=n:=by
  rw[UInt8.toNat_ofNat'];omega
 show RdsW w [.v (.int .u8 (UInt8.ofNat n.toNat).toNat)] cs
 rw[this];exact hr
theorem eR:Op 22 1 (fun l:List UInt8=>[Af false l]) (fun l=>l.length≤big):=by
 intro H enc w fuel cs x h
 obtain⟨l,⟨h1,-⟩,h2,h3⟩:=zI Tryz.underlying22 (by kernel_rfl) PF enc w fuel cs x h
 exact⟨l,h1,h2,by show RdsW w [Af false l] cs;rw[←LP];exact h3⟩
structure Gn.wf (g:Gn):Prop where
 ok:g.ok
 k:(Lit.int .i64 g.k).wf=true
 ak:(Lit.int .i64 g.ak).wf=true
 pk:(Lit.int .i64 g.pk).wf=true
abbrev ARA (W:World):AV→Value→Prop:=RA W.heap.size (eQ W) W ⟨fun _=>0,fun _ _=>False⟩ (fun _=>undef)
theorem oE {α:Type} {t:TypeId} {c:α→D} {ok:α→Prop} (hop:Op t 1 (fun a=>[c a]) ok) {H:Type} {enc:TypeId×Value→H} {W:World} {v:Value} {d:DataW H} {p:List MemPlace}
 (hv:v.cells.toList=[v]) (h:DataW.Trod enc Tryz.prog W 0 (fun _=>true) true t v d p):∃a,ok a∧ARA W (.d (c a)) v:=by
 obtain⟨fuel,hf⟩:=h
 obtain⟨a,k1,-,k3⟩:=hop enc W fuel _ _ hf
 rw[hv] at k3
 exact⟨a,k1,.d (k3.rd 0 _ _ rfl rfl)⟩
theorem Yq {t e:TypeId} (ht:Tryz.prog.underlying t=some (.slice e)) {W:World} {base:Nat} {v:Value} (hv:Value.okWide Tryz.prog W .any base t v):v.cells.toList=[v]:=by
 obtain⟨a,l,c,rfl⟩:=okWide_slice ht hv;rfl
theorem FY:laidOutB Tryz.prog=true:=by kernel_rfl
theorem oF {H:Type} {enc:TypeId×Value→H} {t:TypeId} (hrow:t<Tryz.prog.types.size) (hr:Tryz.prog.readableRec t=true) {W W':World} {v1:Value} {d1:DataW H} {p1:List MemPlace} (h1:DataW.Trod enc Tryz.prog W 0 (fun _=>true) true t v1 d1 p1) (hb:Below W.heap.size W W') (hlt:∀x∈p1,x.block<W.heap.size):
 DataW.Trod enc Tryz.prog W' 0 (fun x=>decide (x<W.heap.size)) true t v1 d1 p1:=
 WideElems.Trod_stays (P:=Tryz.prog) FY hr hrow h1 (fun x hx=>hb.same (hlt x hx)) (fun x hx=>by simpa using hlt x hx)
end Go.Proofs.YtokmjjkbginodaaGreatDoor
