/- MU: the texts PkA, one behind the other. No condition but what each lemma says. -/
import Derived.Test.YtokmjjkbginodaaGreatDoorMC
set_option maxRecDepth 100000
set_option maxHeartbeats 16000000
namespace Go.Proofs.YtokmjjkbginodaaGreatDoor
open Go.RowKit
def U2:AV:= .sem fun _ _ v=>∃g:Nat,v= .slice (some ⟨g,0,none⟩) 0 0
theorem U3 {B:Nat} {fp:Nat→Nat→Prop} {w:World} {bm:BM} {gt:Nat→Value} {v:Value} (h:RA B fp w bm gt U2 v):∃g:Nat,v= .slice (some ⟨g,0,none⟩) 0 0:=by
 unfold U2 at h
 cases h with
 |sem _ h=>exact h bm.z w (fun _ _ x=>x) (fun _ _ _=>rfl) (NC.refl w)
section
variable {P:Program} {C:Cx} {o:Oper} {σ:AS} {t:Nat}
theorem O8 {st e:TypeId} {d:TypeDesc} {z zS:Value} {sz by' s2 b2:Nat} (ho:o.op= .buildSlice st 0 #[]) (hd:o.dst=some t) (ht:t<C.N) (hT:TyOk P st (.slice e) zS s2 b2) (hE:TyOk P e d z sz by'):Bp P C o σ (σ.put t U2):=by
 rintro a w ⟨bm,gt,fp,hg⟩ K Q hK
 have hrun:(execOp a.eval o).run P w= .ok (.value (.slice (some ⟨w.heap.size,0,none⟩) 0 0)) (w.alloc (.cells #[] e)):=by
  simp only[execOp,ho,Instr.buildSlice]
  simp only[Sem.run_bind,Sem.run_pure,Result.andThen_ok,hT.und,hE.size]
  simp[go_sem,newRow,newObj,Sem.run]
 unfold Oper.wp
 rw[hrun,Oper.upon_value,hd]
 have hb:Below w.heap.size w (w.alloc (.cells #[] e)):=(Below.refl _ _).alloc (Nat.le_refl _) _
 exact hK _ _ ⟨bm,gt,fp,(hg.grow hb).put ht (.sem rfl fun _ _ _ _ _=>⟨_,rfl⟩)⟩
theorem Yi {st e:TypeId} {s x:Operand} {m by':Nat} {tg:Bool} {ds:List D} {d:TypeDesc} {z:Value} (ho:o.op= .call {callee:= .builtin .append,args:=#[s,x],argTypes:=#[st,st]}) (hd:o.dst=some t) (ht:t<C.N) {κ:Nat} (hc:σ.clean κ=true) (hs:σ.eval s=some U2) (hx:σ.eval x=some (.d (.sl tg m 1 ds))) (hfl:Yh ds=true) (hm:0<m)
 (hT:P.underlying st=some (.slice e)) (hE:TyOk P e d z 1 by') (_:z.cells.size=1) (h63:m≤1000000000) (hby:by'≤1000):Bp P C o σ ⟨(t,.pk κ 0 m 1)::σ.tm,(κ,ds.map AV.d)::σ.bx,σ.tk⟩:=by
 rintro a w ⟨bm,gt,fp,hg⟩ K Q hK
 obtain⟨i,hi,hz0,hz1,hz2⟩:=hE.inf
 obtain⟨g,hv⟩:=U3 (hg.eval hs)
 have h2:=hg.eval hx
 have hbytes:(0+m)*by'≤140737488355328:=Nat.le_trans (Nat.mul_le_mul (by omega:0+m≤1000000000) hby) (by omega)
 generalize hvx:a.eval x=vx at h2
 cases h2 with
 |d h2=>
  cases h2 with
  |@sl _ _ _ _ sa sc us s1 s2 s3 s4 s5 s6 s7 s8=>
   cases sa with
   |none=>have:=s5 rfl;omega
   |some ad=>
    have hul:us.length=m*i.size:=by rw[s4,s3,hz1]
    have hnews:∀j u,us[j]?=some u→w.cell? (ad.add j)=some u:=by
     intro j u hu
     obtain⟨b,o',e1,_,_,e4⟩:=s8 j u hu
     simp only[Option.some.injEq] at e1
     subst e1
     rw[add_lit];exact e4
    have hr:=run_append_grow (P:=P) w st o.type e i z hT hi hz0 ⟨g,0,none⟩ 0 0 [] (by simp) (by simp) ad m sc us hul hnews (by omega) (by omega) (growslice_fits (by omega) (by rw[hz2];exact hbytes))
    have hge:m≤grownCap w (0+m) 0 e:=by have:=grownCap_ge w (0+m) 0 e;omega
    have hle:grownCap w (0+m) 0 e≤maxLen:=grownCap_le_maxLen _ _ _ _ (by unfold maxLen;omega)
    generalize grownCap w (0+m) 0 e=cap at hr hge hle
    rw[Nat.zero_add] at hr
    obtain⟨cur,hcur⟩:∃cur:Array Value,([]:List Value).toArray++us.toArray++Builtin.zeroCells z.cells (cap-m)=cur:=⟨_,rfl⟩
    rw[hcur] at hr
    have hget:∀i u,us[i]?=some u→cur[i]?=some u:=fun i u hu=>by
     have hi:=(Aw.1 hu).1
     rw[←hcur,Array.getElem?_append_left (by simpa using hi)]
     simpa using hu
    have hul1:us.length=m:=by rw[hul,hz1,Nat.mul_one]
    have hcs:m≤cur.size:=by rw[←hcur];simp;omega
    have hobj:(w.drew.alloc (.cells cur e)).heap[w.heap.size]?=some (.cells cur e (0,0)):=heap_alloc_new w.drew _
    have hb:Below w.heap.size w (w.drew.alloc (.cells cur e)):=⟨rfl,rfl,rfl,by show w.heap.size≤(w.heap.push _).size;simp,fun k hk=>by
     have:k<w.drew.heap.size:=hk
     exact heap_alloc_old w.drew _ this⟩
    have hlen:ds.length=m:=by rw[s3,Nat.mul_one]
    have hG:=hg.takeBox (cur:=cur) (e:=e) hb hc (Gs κ ds) (Nat.le_refl _) hobj (by rw[List.length_map,hlen];exact hcs) (fun i u v hu hv=>by
     rw[List.getElem?_map,Option.map_eq_some_iff] at hu
     obtain⟨dd,hdd,rfl⟩:=hu
     have hlt:=(Aw.1 hdd).1
     have hus:us[i]?=some us[i]:=Am (by omega)
     have h7:=s7 i dd _ hdd hus
     rw[hget i _ hus] at hv
     cases hv
     have hf:dd.flat=true:=List.all_eq_true.1 hfl dd (A8 hdd)
     exact(RA.d (gt:=gt) (bm:=bm) h7).flat0 hf)
    have hra:RA C.W.heap.size fp (w.drew.alloc (.cells cur e)) (bm.set κ w.heap.size) gt (.pk κ 0 m 1) (.slice (some ⟨w.heap.size,0,none⟩) m cap):=by
     have hh:RA C.W.heap.size fp (w.drew.alloc (.cells cur e)) (bm.set κ w.heap.size) gt (.pk κ 0 m 1) (.slice (some ⟨(bm.set κ w.heap.size).m κ,0,none⟩) m cap):= .pk hge hle
     rw[BM.set_same] at hh
     exact hh
    unfold Oper.wp execOp
    simp only[ho,resolve,invoke,builtin,Sem.run_bind,Sem.run_pure,Result.andThen_ok,List.map_toArray,List.map_cons,List.map_nil,hv,hvx,hr]
    rw[Oper.upon_value,hd]
    exact hK _ _ ⟨_,_,_,hG.put ht hra⟩
theorem kV {st e:TypeId} {s x:Operand} {by':Nat} {tg:Bool} {ds:List D} {d:TypeDesc} {z:Value} (ho:o.op= .call {callee:= .builtin .append,args:=#[s,x],argTypes:=#[st,st]}) (hd:o.dst=some t) (ht:t<C.N) (hs:σ.eval s=some U2) (hx:σ.eval x=some (.d (.sl tg 0 1 ds)))
 (hT:P.underlying st=some (.slice e)) (hE:TyOk P e d z 1 by'):Bp P C o σ (σ.put t (.d (.sl false 0 1 []))):=
 Ba hd ht fun a w bm gt fp hg=>by
  obtain⟨i,hi,hz0,hz1,hz2⟩:=hE.inf
  obtain⟨g,hv⟩:=U3 (hg.eval hs)
  have h2:=hg.eval hx
  generalize hvx:a.eval x=vx at h2
  refine⟨.slice (some ⟨g,0,none⟩) 0 0,?_,.d (.sl [] (Nat.le_refl _) (by unfold maxLen;omega) rfl rfl (fun h=>by cases h) (by simp) (by simp) (by simp))⟩
  cases h2 with
  |d h2=>
   cases h2 with
   |@sl _ _ _ _ sa sc us s1 s2 s3 s4 s5 s6 s7 s8=>
    have hf:(Builtin.firstCells i.size 0 (.slice sa 0 sc)).run P w= .ok #[] w:=by
     cases sa with
     |none=>exact run_firstCells_none w _ _ _ _
     |some ad=>exact run_firstCells_some w i.size 0 ad 0 sc [] (by simp) (by simp)
    unfold execOp
    simp only[ho,resolve,invoke,builtin,Sem.run_bind,Sem.run_pure,Result.andThen_ok,List.map_toArray,List.map_cons,List.map_nil,hv,hvx]
    cases sa<;>(simp[Builtin.append_,run_underlying hT,sizeOf,typeInfo,hi,Builtin.lenOf,go_sem])
theorem Yj (k:Nat) (ds:List D) (n:Nat) (h:ds.length=n):Uz k ds (.pk k 0 n 1)=true:=by
 subst h
 simp[Uz,Nat.ble_eq]
theorem nY (k:Nat) {ds:List D} (n:Nat) (h:ds.length=n) (hu:D.uns ds=ds):AV.lend k ds (.pk k 0 n 1)= .d (.sl false n 1 ds):=by
 subst h
 simp only[AV.lend,Nat.beq_refl,List.drop_zero,hu,Nat.mul_one,List.take_length]
theorem U4 {f:FuncId} {x:Operand} {ats:Array TypeId} {l:List UInt8} {r:AV} {k:Nat} (ho:o.op= .call {callee:= .value (.func f),args:=#[x],argTypes:=ats}) (hd:o.dst=some t) (ht:t<C.N) {κ:Nat} (hc:σ.clean κ=true)
 (hk:lk k σ.bx=some ((Ak l).map AV.d)) (hds:Ew ((Ak l).map AV.d)=some (Ak l)) (h1:Mh ((Ak l).map AV.d)=true) (hx:σ.eval x=some (.pk k 0 l.length 1)) (hcall:Ab P f [.d (Af false l)] (fun r'=>r'=r)) (hr:r.fresh=true):Bp P C o σ (σ.put t r):=
 U0 ho hd ht hc hk hds h1 (us:=[.pk k 0 l.length 1]) (by show evL σ [x]=_;unfold evL;rw[hx];rfl) (by rw[List.all_cons,Yj _ _ _ (B7 l)];rfl) (fs:=[.d (Af false l)]) (by rw[List.map_cons,nY _ _ (B7 l) (Ao l)];rfl) hcall hr
theorem U5 {f:FuncId} {x y:Operand} {ats:Array TypeId} {l m:List UInt8} {tg:Bool} {r:AV} {k:Nat} (ho:o.op= .call {callee:= .value (.func f),args:=#[x,y],argTypes:=ats}) (hd:o.dst=some t) (ht:t<C.N) {κ:Nat} (hc:σ.clean κ=true)
 (hk:lk k σ.bx=some ((Ak l).map AV.d)) (hds:Ew ((Ak l).map AV.d)=some (Ak l)) (h1:Mh ((Ak l).map AV.d)=true) (hx:σ.eval x=some (.pk k 0 l.length 1)) (hy:σ.eval y=some (.d (Af tg m))) (hcall:Ab P f [.d (Af false l),.d (Af false m)] (fun r'=>r'=r)) (hr:r.fresh=true):Bp P C o σ (σ.put t r):=
 U0 ho hd ht hc hk hds h1 (us:=[.pk k 0 l.length 1,.d (Af tg m)]) (by show evL σ [x,y]=_;unfold evL;rw[hx];unfold evL;rw[hy];rfl) (by rw[List.all_cons,Yj _ _ _ (B7 l)];rfl) (fs:=[.d (Af false l),.d (Af false m)]) (by rw[List.map_cons,nY _ _ (B7 l) (Ao l),List.map_cons,List.map_nil];simp only[AV.lend,AV.give,An];rfl) hcall hr
end
theorem D.freshs_app (a b:List D):D.freshs (a++b)=(D.freshs a&&D.freshs b):=by
 induction a with
 |nil=>rfl
 |cons x r ih=>simp only[List.cons_append,D.freshs,ih,Bool.and_assoc]
theorem Nt {α:Type} {f:α→List D} (n:Nat) {l:List α} (h:∀x∈l,D.freshs (f x)=true):(Fb true n f l).fresh=true:=by
 show(true&&D.freshs (l.flatMap f))=true
 rw[Bool.true_and]
 induction l with
 |nil=>rfl
 |cons x r ih=>rw[List.flatMap_cons,D.freshs_app,h x (by simp),ih fun y hy=>h y (by simp[hy])];rfl
theorem Ms (l:List UInt8):(Af true l).fresh=true:=by
 show(true&&D.freshs (Ak l))=true
 rw[Bool.true_and]
 induction l with
 |nil=>rfl
 |cons x r ih=>exact ih
end Go.Proofs.YtokmjjkbginodaaGreatDoor
