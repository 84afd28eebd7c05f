/- GDecO: the texts DecO, one behind the other. No condition but what each lemma says. -/
import Derived.Test.YtokmjjkbginodaaGreatDoorGDecP
namespace Go.Proofs.YtokmjjkbginodaaGreatDoor
open Go.RowKit Go.Shelf
attribute [local go_sem] Oper.semAt_some
set_option maxRecDepth 100000 in
set_option maxHeartbeats 4000000 in
theorem EI (k:Int) (S:Nat→Prop) (v:Value) (c:List UInt8) (w:World) (hrd:Dg S w v c) (hs:c.length≤1000000) (W:Nat) (hk:Ar k=(W:Int)) (h1:1≤W) (hle:W≤1) (hW4:W≤4)
 (hT:Lib.Utf8Tabs 0 1 w) (hm:c.length%W=0):
 Calls Tryz.prog 196 #[.int .i64 k,v] w (Nm k c w):=by
 refine(callsIn_wide (n:=3)).1 ?_
 refine callsIn_of_wp_marks Tryz.func196 rfl trivial ?_ rfl
 simp only[Tryz.ntmps196,List.size_toArray,Ag,List.length_nil,Nat.reduceAdd,Nat.reduceSub,Array.replicate_succ,Array.replicate_zero,List.push_toArray,List.append_toArray,List.nil_append,List.cons_append]
 obtain⟨B,hB⟩:∃B,w.heap.size=B:=⟨_,rfl⟩
 have HB:=Zh hB
 have hst:=fun(w2:World) (hh:Dg S w2 v c)=>Dg.string (P:=Tryz.prog) hh 22 9 5 Tryz.underlying22 Tryz.underlying5 Tryz.underlying9
 obtain⟨a,cp,rfl,hq1,hq2,hq3,hq4⟩:=hrd
 obtain⟨nc,hn⟩:∃n,c.length=n:=⟨_,rfl⟩
 rw[hn] at hq1 hq3 hs hm hst⊢
 have HN:=Zh hn;have HQ:=Zh hq4;have HQ3:=Zh hq3
 have hrd0:Dg S w (.slice a nc cp) c:=⟨a,cp,by rw[HN.out],by rw[HN.out];exact hq1,hq2,by rw[HN.out];exact HQ3.out,HQ.out⟩
 have HRD:=Zh hrd0;clear hrd0 hn hq4 hq3
 have q1:(nc:Int).tmod W=0:=by rw[←Int.ofNat_tmod];exact_mod_cast hm
 have d1:decide ((1:Int)<(W:Int))=false:=by rw[decide_eq_false_iff_not];omega
 have d0:decide ((0:Int)<(W:Int))=true:=by rw[decide_eq_true_iff];omega
 gi_wp2_with (first|(refine⟨trivial,?_⟩;gi_at_call 149;refine(callsIn_wide.2 (Hl _)).mono ?_;rintro e w1 ⟨m,n,b,rfl,hF,hl,hb⟩;obtain⟨⟨r0,r1,r2⟩,⟨z0,z1,z2⟩,hbw,hsz⟩:=P5 hB hb;have hB1:B<w1.heap.size:=by{omega};have hB2:B+1<w1.heap.size:=by{omega};obtain⟨fv,wd,hlook,-,hok⟩:=Kp hF k true (by simp only[true_iff];omega);obtain⟨g,cap,rfl,rfl,hch⟩:=hok rfl;rw[hk] at hlook))
 go_goals
 have hc1:=hst (w1.alloc (.cells #[.func (.func g) #[] cap,.int .i64 W] 222)) (HRD.out.below (by rw[hB];exact hbw.alloc (by omega) _))
 rw[hc1]
 simp only[Result.andThen]
 rw[Oper.uponIn_value]
 gi_wp2_with (first|(refine⟨trivial,?_⟩;gi_at_call 218;refine(callsIn_wide.2 (Sl _ W (by omega) hW4 ⟨_,_,_,rfl⟩ _)).mono ?_;rintro e w2 ⟨rfl,rfl⟩))
 go_goals
 obtain⟨F0,hF0⟩:∃F0,w1.heap.size=F0:=⟨_,rfl⟩
 obtain⟨W0,hW0⟩:∃W0,(((((w1.alloc (.cells #[.func (.func g) #[] cap,.int .i64 W] 222)).alloc (.cells #[.int .i64 k,.string {data:=c.toArray}] 53)).alloc (.cells #[.pointer none,.slice none 0 0] 277)).alloc (.cells #[.slice a nc cp] 22)).alloc (.cells #[.int .i64 W] 3))=W0:=⟨_,rfl⟩
 have hsz0:W0.heap.size=F0+5:=by rw[←hW0,←hF0];simp
 have hC:Uc w1 k g cap:=hch _ _ hF
 have hbB:Below (F0+2) ((w1.alloc (.cells #[.func (.func g) #[] cap,.int .i64 W] 222)).alloc (.cells #[.int .i64 k,.string {data:=c.toArray}] 53)) W0:=by
  rw[←hW0,←hF0];exact(((Below.refl _ _).alloc (by simp) _).alloc (by simp) _).alloc (by simp) _
 have hw1:Below F0 w1 W0:=by
  rw[←hF0] at hbB⊢;exact(((Below.refl _ _).alloc (Nat.le_refl _) _).alloc (by simp) _).trans (hbB.mono (by omega))
 have hbl:Lib.IsBuilder 277 5 (F0+2) (F0+2) [] W0:=by
  have h:=Lib.fresh_isBuilder 277 5 ((w1.alloc (.cells #[.func (.func g) #[] cap,.int .i64 W] 222)).alloc (.cells #[.int .i64 k,.string {data:=c.toArray}] 53))
  have e:((w1.alloc (.cells #[.func (.func g) #[] cap,.int .i64 W] 222)).alloc (.cells #[.int .i64 k,.string {data:=c.toArray}] 53)).heap.size=F0+2:=by rw[←hF0];simp
  rw[e] at h
  rw[←hW0]
  exact C7 (C7 h ((Below.refl _ _).alloc (Nat.le_refl _) _)) ((Below.refl _ _).alloc (Nat.le_refl _) _)
 have cs:W0.cell? ⟨F0+3,0,none⟩=some (.slice a nc cp):=by rw[←hW0,←hF0];simp[go_sem]
 have b3:W0.heap[F0+3]?=some (.cells #[.slice a nc cp] 22 (0,0)):=by
  rw[←hW0,←hF0]
  exact(Below.heap_alloc _ _ _ (by simp)).trans (by have h:=World.alloc_heap_new (((w1.alloc (.cells #[.func (.func g) #[] cap,.int .i64 W] 222)).alloc (.cells #[.int .i64 k,.string {data:=c.toArray}] 53)).alloc (.cells #[.pointer none,.slice none 0 0] 277)) (.cells #[.slice a nc cp] 22 (0,0));simpa using h)
 have b4:W0.heap[F0+4]?=some (.cells #[.int .i64 W] 3 (0,0)):=by
  rw[←hW0,←hF0]
  have h:=World.alloc_heap_new ((((w1.alloc (.cells #[.func (.func g) #[] cap,.int .i64 W] 222)).alloc (.cells #[.int .i64 k,.string {data:=c.toArray}] 53)).alloc (.cells #[.pointer none,.slice none 0 0] 277)).alloc (.cells #[.slice a nc cp] 22 (0,0))) (.cells #[.int .i64 W] 3 (0,0));simpa using h
 have cn:W0.cell? ⟨F0+4,0,none⟩=some (.int .i64 W):=by rw[←hW0,←hF0];simp[go_sem]
 have ct0:W0.cell? ⟨F0+1,0,none⟩=some (.int .i64 k):=by rw[←hW0,←hF0];simp[go_sem]
 have ct1:W0.cell? ⟨F0+1,1,none⟩=some (.string {data:=c.toArray}):=by rw[←hW0,←hF0];simp[go_sem]
 have cf0:W0.cell? ⟨F0,0,none⟩=some (.func (.func g) #[] cap):=by rw[←hW0,←hF0];simp[go_sem]
 have cf1:W0.cell? ⟨F0,1,none⟩=some (.int .i64 W):=by rw[←hW0,←hF0];simp[go_sem]
 have zt1:W0.frozen? ⟨F0+1,1,none⟩=false:=by rw[←hW0,←hF0];simp[go_sem]
 have keep:∀{p:Addr},p.block<F0→W0.cell? p=w1.cell? p∧W0.frozen? p=w1.frozen? p:=fun hp=>⟨hw1.cell hp,hw1.frozen hp⟩
 have g0:=(keep (p:=⟨B,0,none⟩) (by simp;omega)).1.trans r0
 have g1:=(keep (p:=⟨B,1,none⟩) (by simp;omega)).1.trans r1
 have g2:=(keep (p:=⟨B+1,0,none⟩) (by simp;omega)).1.trans r2
 have y0:=(keep (p:=⟨B,0,none⟩) (by simp;omega)).2.trans z0
 have y1:=(keep (p:=⟨B,1,none⟩) (by simp;omega)).2.trans z1
 have y2:=(keep (p:=⟨B+1,0,none⟩) (by simp;omega)).2.trans z2
 have hbW:Below B w W0:=hbw.trans (hw1.mono (by omega))
 rw[hW0]
 simp only[hF0]
 clear hW0 keep r0 r1 r2 z0 z1 z2 hlook hok hch hb hl hc1 hst
 obtain⟨m,hmW⟩:∃m,m*W=nc:=⟨nc/W,Nat.div_mul_cancel (Nat.dvd_of_mod_eq_zero hm)⟩
 have cs':W0.cell? ⟨F0+3,0,none⟩=some (.slice a (m*W) cp):=by rw[hmW];exact cs
 have hmle:m≤1000000:=by
  have:m*1≤m*W:=Nat.mul_le_mul_left m (by omega)
  omega
 obtain⟨b0,o0,ha⟩:∃b o,0<m→a=some ⟨b,o,none⟩:=by
  rcases Nat.eq_zero_or_pos m with h|h
  ·exact⟨0,0,fun h'=>by omega⟩
  ·have hlt:0<(Lib.byteCells c).length:=by
    rw[J4,HN.out,←hmW]
    exact Nat.mul_pos h (by omega)
   obtain⟨b,o,e,_⟩:=HQ.out 0 _ (Am hlt)
   exact⟨b,o,fun _=>e⟩
 apply wpIn_rangeFunc_ownF (F:=Fence.wide) (n:=3) rfl (by omega) (gf:=244) (lb:=#[.pointer (some ⟨F0+3,0,none⟩),.pointer (some ⟨F0+4,0,none⟩)]) rfl trivial (enters_of Tryz.func244 (by kernel_rfl) rfl)
  (Sk Fence.wide (3-1) trivial rfl (by omega) (F0+3) (F0+4) b0 o0 cp m W a ha (by omega) hW4 hmle (by rw[hmW];exact hq1) hq2 W0 cs' cn) (fun h k=>KeepTwo.trans h k) (fun W' l o o' hl h1 h2 h3=>⟨World.putObj_heap_other (by omega),World.putObj_heap_other (by omega)⟩) (Below.refl _ _) (fun _=>rfl)
  (fun pre W'=>(Lib.IsBuilder 277 5 (F0+2) (F0+2) (Lib.byteCells (pre.flatMap fun q=>enc (Dk c (q.1*W) W))) W'∧∀q∈pre,B5 k (Dk c (q.1*W) W)=true)∧Below (F0+2) W0 W'∧(W'.heap[F0+3]?=some (.cells #[.slice a nc cp] 22 (0,0))∧W'.heap[F0+4]?=some (.cells #[.int .i64 W] 3 (0,0))))
  (fun cd pre W'=>(cd= .ret∧(∃q:Fin m,B5 k (Dk c (q.1*W) W)=false)∧W'.cell? ⟨B,0,none⟩=some (.int .i64 0)∧W'.cell? ⟨B,1,none⟩=some (.string {data:=#[]})∧W'.cell? ⟨B+1,0,none⟩=some (.int .i64 6))∧Below B W0 W')
  (OwnFrom.and (OwnFrom.and (Own.from (J6 _ _ _ _ _) _) (ownFrom_pure _ _)) (OwnFrom.and (ownFrom_below (by omega) (by omega)) (Own.from (fun s X Y row hs hg hr=>⟨No hs.1 hg hr,No hs.2 hg hr⟩) _)))
  (fun cd=>OwnFrom.and (fun s X Y row hs hg hr=>⟨hs.1,hs.2.1,cell_kept hs.2.2.1 hg (fun r e=>(hr r e).2),cell_kept hs.2.2.2.1 hg (fun r e=>(hr r e).2),cell_kept hs.2.2.2.2 hg (fun r e=>(hr r e).2)⟩) (ownFrom_below (by omega) (by omega)))
  ⟨⟨hbl,fun q hq=>by cases hq⟩,Below.refl _ _,b3,b4⟩
 case hassign=>
  intro l x W' K hK
  gi_wp2
  exact hK
 case hbody=>
  rintro l pre ⟨q,hq⟩ W' ⟨⟨hI,hall⟩,hB',e3,e4⟩ hlen
  have hqW:q*W+W≤nc:=by
   have h1:(q+1)*W≤m*W:=Nat.mul_le_mul_right W hq
   rw[Nat.add_mul,Nat.one_mul] at h1;omega
  have hcell:∀i,i<nc→W'.cell? ⟨b0,o0+i,none⟩=some (.int .u8 ((c.getD i 0).toNat:Nat)):=fun i hi=>by
   have hl:i<c.length:=by rw[HN.out];exact hi
   obtain⟨b,o,e,_,h⟩:=HQ.out i (.int .u8 ((c.getD i 0).toNat:Nat)) (by simp[Lib.byteCells,Am hl,List.getD_eq_getElem?_getD])
   rw[ha (by omega)] at e
   cases e
   exact((hbW.trans (hB'.mono (by omega))).cell (by rw[←hB];exact Co h)).trans h
  simp only[cU]
  obtain⟨u,hu⟩:∃u,o0+q*W=u:=⟨_,rfl⟩
  have hcell':∀j,j<W→W'.cell? ⟨b0,u+j,none⟩=some (.int .u8 ((c.getD (q*W+j) 0).toNat:Nat)):=fun j hj=>by
   rw[←hu,Nat.add_assoc];exact hcell _ (by omega)
  rw[hu]
  gi_wp2
  gi_loopw [51,11] (fun i y wr=>∃(j v:Nat),i= .int .i64 j∧y= .int .u32 v∧j≤W∧v=Dk c (q*W) j∧wr.heap=W'.heap∧Below W'.heap.size W' wr) (fun i _ _=>W-(intOf i).toNat)
  case atStart=>exact⟨0,0,rfl,rfl,Nat.zero_le _,rfl,rfl,Below.refl _ _⟩
  case round=>
   obtain⟨j,v,rfl,rfl,hj,hv,hwr,hbr⟩:=hrel
   by_cases hlt:j<W
   ·have dj:decide ((j:Int)<(W:Int))=true:=by rw[decide_eq_true_iff];omega
    have hc:=(World.cell?_of_block (a:=⟨b0,u+j,none⟩) (by rw[hwr])).trans (hcell' j hlt)
    have hvlt:Dk c (q*W) j<16777216:=by
     have h1:=Mf c (q*W) j
     have h2:256^j≤256^3:=Nat.pow_le_pow_right (by omega) (by omega)
     have h3:(256:Nat)^3=16777216:=rfl
     omega
    gi_wp2
    go_roundw
    case rel=>
     refine⟨j+1,_,by go_num,?_,by omega,rfl,hwr,hbr⟩
     rw[cV _ _ hvlt (UInt8.toNat_lt _)]
     simp[Dk]
    case measure=>simp[intOf];omega
   ·have dj:decide ((j:Int)<(W:Int))=false:=by rw[decide_eq_false_iff_not];omega
    obtain rfl:j=W:=by omega
    have blk:∀k o,k<F0+2→W0.cell? ⟨k,o,none⟩=wr.cell? ⟨k,o,none⟩∧W0.frozen? ⟨k,o,none⟩=wr.frozen? ⟨k,o,none⟩:=fun k o hk=>by
     have h:wr.heap[k]?=W0.heap[k]?:=by rw[hwr];exact hB'.block k hk
     exact⟨(World.cell?_of_block (a:=⟨k,o,none⟩) h).symm,(World.frozen?_of_block (a:=⟨k,o,none⟩) h).symm⟩
    have hf0:=(blk F0 0 (by omega)).1.symm.trans cf0
    have k0:=(blk B 0 (by omega)).1.symm.trans g0
    have k1:=(blk B 1 (by omega)).1.symm.trans g1
    have k2:=(blk (B+1) 0 (by omega)).1.symm.trans g2
    have u0:=(blk B 0 (by omega)).2.symm.trans y0
    have u1:=(blk B 1 (by omega)).2.symm.trans y1
    have u2:=(blk (B+1) 0 (by omega)).2.symm.trans y2
    have hIr:=C7 hI hbr
    have hsW:F0+5≤W'.heap.size:=by have e1:=hB'.size;omega
    have hsr:F0+5≤wr.heap.size:=by have e2:=hbr.size;omega
    have hBr:Below B W0 wr:=(hB'.mono (by omega)).trans (hbr.mono (by omega))
    obtain⟨v,hv'⟩:∃v,Dk c (q*j) j=v:=⟨_,rfl⟩
    rw[hv'] at hv
    subst hv
    have HV:=Zh hv'
    by_cases hbig:1114111<v
    ·have db:decide ((1114111:Int)<(v:Int))=true:=by rw[decide_eq_true_iff];omega
     gi_wp2
     refine⟨fun _ h=>(by cases h),?_⟩
     gi_wp2
     refine⟨(KeepsOthers.of_heap hwr).trans (((KeepsOthers.setCell _ _ _).trans (KeepsOthers.setCell _ _ _)).trans (KeepsOthers.setCell _ _ _)),⟨rfl,⟨⟨q,hq⟩,?_⟩,?_,?_,?_⟩,?_⟩
     ·rw[HV.out];exact nI hbig
     ·simp[go_sem,k0]
     ·simp[go_sem,k1]
     ·simp[go_sem,k2]
     ·exact(((hBr.setCell (p:=⟨B,0,none⟩) (Nat.le_refl _) _).setCell (p:=⟨B,1,none⟩) (Nat.le_refl _) _).setCell (p:=⟨B+1,0,none⟩) (Nat.le_succ _) _)
    ·have db:decide ((1114111:Int)<(v:Int))=false:=by rw[decide_eq_false_iff_not];omega
     have he:=hC.1
     gi_wp2
     refine⟨trivial,(CallsIn.inRound l (callsIn_wide.2 (hC.2 v wr (by omega) (by rw[hF0];exact hw1.trans ((hB'.mono (by omega)).trans (hbr.mono (by omega))))))).mono ?_⟩
     rintro e w6 ⟨rfl,hb6⟩
     have hI6:=C7 hIr hb6
     have hbr6:=hbr.trans (hb6.mono hbr.size)
     have hs6:F0+5≤w6.heap.size:=by have e2:=hb6.size;omega
     have hB6:Below (F0+2) W0 w6:=hB'.trans (hbr6.mono (by omega))
     have f3:=(hbr6.block (F0+3) (by omega)).trans e3
     have f4:=(hbr6.block (F0+4) (by omega)).trans e4
     have k06:=(hb6.cell (p:=⟨B,0,none⟩) (by simp;omega)).trans k0
     have k16:=(hb6.cell (p:=⟨B,1,none⟩) (by simp;omega)).trans k1
     have k26:=(hb6.cell (p:=⟨B+1,0,none⟩) (by simp;omega)).trans k2
     have u06:=(hb6.frozen (p:=⟨B,0,none⟩) (by simp;omega)).trans u0
     have u16:=(hb6.frozen (p:=⟨B,1,none⟩) (by simp;omega)).trans u1
     have u26:=(hb6.frozen (p:=⟨B+1,0,none⟩) (by simp;omega)).trans u2
     rcases Bool.eq_false_or_eq_true (B5 k v) with hv|hv
     ·rw[hv]
      have HVX:=Zh hv;clear hv
      have hlen4:(pre.flatMap fun q=>enc (Dk c (q.1*j) j)).length≤100000000:=Nat.le_trans (Kr _ _) (by omega)
      gi_wp2_with (refine⟨trivial,?_⟩;gi_at_call 219;refine(CallsIn.inRound l (callsIn_wide.2 (On (F0+2) (F0+2) _ v (Ir HVX.out) _ hI6 hlen4 (by omega)))).mono ?_;rintro e w7 ⟨⟨nn,rfl⟩,hI7,hb7,hk7,ho7⟩)
      refine⟨((KeepsOthers.of_heap hwr).trans (Ed hb6)).trans hk7,⟨?_,?_⟩,⟨?_,?_⟩,hB6.trans hb7,?_,?_⟩
      ·rw[e3];exact ho7 _ _ f3 (by simp) (fun c fz e=>by cases e)
      ·rw[e4];exact ho7 _ _ f4 (by simp) (fun c fz e=>by cases e)
      ·rw[List.flatMap_append];simpa[HV.out] using hI7
      ·intro y hy
       rcases List.mem_append.1 hy with h|h
       ·exact hall y h
       ·rw[List.mem_singleton.1 h,HV.out];exact HVX.out
      ·exact ho7 _ _ f3 (by simp) (fun c fz e=>by cases e)
      ·exact ho7 _ _ f4 (by simp) (fun c fz e=>by cases e)
     ·rw[hv]
      have HVX:=Zh hv;clear hv
      gi_wp2
      refine⟨((KeepsOthers.of_heap hwr).trans (Ed hb6)).trans (((KeepsOthers.setCell _ _ _).trans (KeepsOthers.setCell _ _ _)).trans (KeepsOthers.setCell _ _ _)),⟨rfl,⟨⟨q,hq⟩,?_⟩,?_,?_,?_⟩,?_⟩
      ·rw[HV.out];exact HVX.out
      ·simp[go_sem,k06]
      ·simp[go_sem,k16]
      ·simp[go_sem,k26]
      ·exact((((hB6.mono (show B≤F0+2 by omega)).setCell (p:=⟨B,0,none⟩) (Nat.le_refl _) _).setCell (p:=⟨B,1,none⟩) (Nat.le_refl _) _).setCell (p:=⟨B+1,0,none⟩) (Nat.le_succ _) _)
 case hdone=>
  rintro D xs W' hD hxs ⟨⟨hI,hall⟩,hB',e3,e4⟩ hK
  have hcl:=HN.out
  have hdiv:c.length/W=m:=by rw[hcl,←hmW];exact Nat.mul_div_cancel _ (by omega)
  have hallN:∀x∈L5 W c (c.length/W),B5 k x=true:=by
   intro x hx
   rw[hdiv] at hx
   obtain⟨q,hq,rfl⟩:=List.mem_map.1 hx
   rw[←hxs] at hq
   obtain⟨y,hy,rfl⟩:=List.mem_map.1 hq
   exact hall y hy
  obtain⟨o1,o2,-⟩:=Zv hk (by omega) (by rw[hcl];exact hm) hallN
  have hbs:xs.flatMap (fun q=>enc (Dk c (q.1*W) W))=Fp k c:=by
   rw[o2,hdiv]
   unfold L5
   rw[←hxs,List.map_map,List.flatMap_map]
   rfl
  rw[hbs] at hI
  have hv:Aq k (Fp k c)=true:=by
   unfold okD at o1
   simp only[At] at o1
   exact o1.1
  have hsize:(Fp k c).length≤16777216:=by
   rw[←hbs]
   have h1:=Kr (fun q:Fin m=>Dk c (q.1*W) W) xs
   have h2:xs.length=m:=by have:=congrArg List.length hxs;simpa using this
   omega
  have hsW:F0+5≤W'.heap.size:=by have e1:=hB'.size;omega
  have DEC:Fl k c=k∧Cu k c=Fp k c∧D7 k c=0:=by
   unfold Fl Cu D7
   have e:¬Ar k<0:=by rw[hk];omega
   simp[e,o1]
  have HD:=Zh DEC;clear DEC
  obtain⟨L,hL⟩:∃L,Fp k c=L:=⟨_,rfl⟩
  rw[hL] at hI hv hsize HD
  clear hbs o1 o2 hallN
  have t0:=(hB'.cell (p:=⟨F0+1,0,none⟩) (by simp)).trans ct0
  have t1:=(hB'.cell (p:=⟨F0+1,1,none⟩) (by simp)).trans ct1
  have zt:=(hB'.frozen (p:=⟨F0+1,1,none⟩) (by simp)).trans zt1
  have HT:=Zh hT;clear hT
  gi_wp2_with (first
   |(refine⟨trivial,?_⟩;gi_at_call 220;refine(callsIn_wide.2 (Tryz.Builder_String_any_k (F0+2) (F0+2) L _ (Lib.IsBuilderF.of hI) (by omega))).mono ?_;rintro e w7 ⟨rfl,-,hb7,ho7⟩;have hK7:=ho7 D _ hK (fun e=>by cases e;omega) (fun c fz e=>by cases e);have hs7:=hb7.size;have hB7:=hB'.trans hb7;have t07:=(hb7.cell (p:=⟨F0+1,0,none⟩) (by simp)).trans t0;have t17:=(hb7.cell (p:=⟨F0+1,1,none⟩) (by simp)).trans t1;have z17:=(hb7.frozen (p:=⟨F0+1,1,none⟩) (by simp)).trans zt))
  have hlt7:F0+1<w7.heap.size:=by omega
  have hs8:(w7.setCell ⟨F0+1,1,none⟩ (.string {data:=L.toArray})).heap.size=w7.heap.size:=by simp
  have hB8:Below B W0 (w7.setCell ⟨F0+1,1,none⟩ (.string {data:=L.toArray})):=(hB7.mono (by omega)).setCell (p:=⟨F0+1,1,none⟩) (by simp;omega) _
  have hB9:Below (F0+1) W0 (w7.setCell ⟨F0+1,1,none⟩ (.string {data:=L.toArray})):=(hB7.mono (by omega)).setCell (p:=⟨F0+1,1,none⟩) (by simp) _
  have p0:(w7.setCell ⟨F0+1,1,none⟩ (.string {data:=L.toArray})).cell? ⟨F0+1,0,none⟩=some (.int .i64 k):=by simp[go_sem,t07]
  have p1:(w7.setCell ⟨F0+1,1,none⟩ (.string {data:=L.toArray})).cell? ⟨F0+1,1,none⟩=some (.string {data:=L.toArray}):=by simp[go_sem,t17]
  obtain⟨w8,hw8⟩:∃w8,w7.setCell ⟨F0+1,1,none⟩ (.string {data:=L.toArray})=w8:=⟨_,rfl⟩
  rw[hw8] at hs8 hB8 hB9 p0 p1
  have hK8:w8.heap[D]?=some (.deferred (some [])):=by
   rw[←hw8,Below.heap_setCell _ _ _ _ (by simp;omega)];exact hK7
  have hbw8:Below w.heap.size w w8:=by rw[hB];exact hbW.trans hB8
  rw[hw8]
  clear hw8
  refine⟨trivial,(callsIn_wide.2 (Kq k ⟨L.toArray⟩ (by simpa[ByteArray.size] using hsize) w8 (Utf8Tabs_below HT.out hbw8))).mono ?_⟩
  rintro e w9 ⟨rfl,hb9⟩
  have hs9:=hb9.size
  have q0:=(hb9.cell (p:=⟨F0+1,0,none⟩) (by simp;omega)).trans p0
  have q1:=(hb9.cell (p:=⟨F0+1,1,none⟩) (by simp;omega)).trans p1
  have a0:=(hb9.cell (p:=⟨B,0,none⟩) (by simp;omega)).trans ((hB9.cell (p:=⟨B,0,none⟩) (by simp;omega)).trans g0)
  have a1:=(hb9.cell (p:=⟨B,1,none⟩) (by simp;omega)).trans ((hB9.cell (p:=⟨B,1,none⟩) (by simp;omega)).trans g1)
  have a2:=(hb9.cell (p:=⟨B+1,0,none⟩) (by simp;omega)).trans ((hB9.cell (p:=⟨B+1,0,none⟩) (by simp;omega)).trans g2)
  have z0:=(hb9.frozen (p:=⟨B,0,none⟩) (by simp;omega)).trans ((hB9.frozen (p:=⟨B,0,none⟩) (by simp;omega)).trans y0)
  have z1:=(hb9.frozen (p:=⟨B,1,none⟩) (by simp;omega)).trans ((hB9.frozen (p:=⟨B,1,none⟩) (by simp;omega)).trans y1)
  have z2:=(hb9.frozen (p:=⟨B+1,0,none⟩) (by simp;omega)).trans ((hB9.frozen (p:=⟨B+1,0,none⟩) (by simp;omega)).trans y2)
  have hK9:=(hb9.block D (Array.getElem?_eq_some_iff.1 hK8).1).trans hK8
  have hv9:Aq k (ByteArray.mk L.toArray).data.toList=true:=by simpa using hv
  rw[hv9]
  clear hv9 hK8 p0 p1 t07 t17 z17 t0 t1 zt
  gi_wp2
  obtain⟨Wf,hWf⟩:∃Wf,((w9.setCell ⟨B,0,none⟩ (.int .i64 k)).setCell ⟨B,1,none⟩ (.string {data:=L.toArray})).setCell ⟨B+1,0,none⟩ (.int .i64 0)=Wf:=⟨_,rfl⟩
  have s0:Wf.cell? ⟨B,0,none⟩=some (.int .i64 k):=by rw[←hWf];simp[go_sem,a0]
  have s1:Wf.cell? ⟨B,1,none⟩=some (.string {data:=L.toArray}):=by rw[←hWf];simp[go_sem,a1]
  have s2:Wf.cell? ⟨B+1,0,none⟩=some (.int .i64 0):=by rw[←hWf];simp[go_sem,a2]
  have hKf:Wf.heap[D]?=some (.deferred (some [])):=by
   rw[←hWf,Below.heap_setCell _ _ _ _ (by simp;omega),Below.heap_setCell _ _ _ _ (by simp;omega),Below.heap_setCell _ _ _ _ (by simp;omega)];exact hK9
  have hBf:Below B w Wf:=by
   rw[←hWf]
   exact((((hbW.trans hB8).trans (hb9.mono (by omega))).setCell (p:=⟨B,0,none⟩) (Nat.le_refl _) _).setCell (p:=⟨B,1,none⟩) (Nat.le_refl _) _).setCell (p:=⟨B+1,0,none⟩) (Nat.le_succ _) _
  rw[hWf]
  clear hWf
  have hkr:∀r,some D=some r→∃o:Obj,Wf.heap[r]?=some o∧o.isCells=false:=fun r e=>by cases e;exact⟨_,hKf,rfl⟩
  refine H1 (D:=D) (v1:= .agg #[.int .i64 k,.string ⟨L.toArray⟩]) (v2:= .int .i64 0) Tryz.results196 hKf ⟨_,rfl,Dw _ _ _ 0 [.int .i64 k,.string ⟨L.toArray⟩] _ Tryz.underlying53 rfl (by kernel_rfl) (Mc (cell_kept s0 (grownBy_putObj' Wf D _) hkr) (cell_kept s1 (grownBy_putObj' Wf D _) hkr))⟩ ⟨_,rfl,?_⟩ rfl ⟨by rw[HD.out.1,HD.out.2.1,HD.out.2.2],?_⟩
  ·have h:=cell_kept s2 (grownBy_putObj' Wf D (.deferred none)) hkr
   simp[go_sem,h]
  ·exact HB.out▸(hBf.grown (grownBy_putObj' Wf D _) (Nat.le_trans (by omega) hBf.size) (fun j e=>by cases e;omega))
 case hstop=>
  rintro D cd pre W' hD-⟨⟨rfl,⟨q,hx⟩,s0,s1,s2⟩,hB'⟩ hK
  have hcl:=HN.out
  have hdiv:c.length/W=m:=by rw[hcl,←hmW];exact Nat.mul_div_cancel _ (by omega)
  have hok:okD k c=false:=by
   cases ho:okD k c with
   |false=>rfl
   |true=>
    have h:=(Uk hk (by omega) ho).2 (Dk c (q.1*W) W) (by rw[hdiv];exact List.mem_map.2 ⟨q.1,List.mem_range.2 q.2,rfl⟩)
    rw[hx] at h;cases h
  have hneg:¬Ar k<0:=by rw[hk];omega
  gi_wp2
  have hkr:∀r,some D=some r→∃o:Obj,W'.heap[r]?=some o∧o.isCells=false:=fun r e=>by cases e;exact⟨_,hK,rfl⟩
  refine H1 (D:=D) (v1:= .agg #[.int .i64 0,.string {data:=#[]}]) (v2:= .int .i64 6) Tryz.results196 hK ⟨_,rfl,Dw _ _ _ 0 [.int .i64 0,.string {data:=#[]}] _ Tryz.underlying53 rfl (by kernel_rfl) (Mc (cell_kept s0 (grownBy_putObj' W' D _) hkr) (cell_kept s1 (grownBy_putObj' W' D _) hkr))⟩ ⟨_,rfl,?_⟩ rfl ⟨by unfold Fl Cu D7;simp[hneg,hok],?_⟩
  ·have h:=cell_kept s2 (grownBy_putObj' W' D (.deferred none)) hkr
   simp[go_sem,h]
  exact HB.out▸((hbW.trans hB').grown (grownBy_putObj' W' D _) (Nat.le_trans (by omega) hB'.size) (fun j e=>by cases e;omega))
theorem EJ (k:Int) (S:Nat→Prop) (v:Value) (c:List UInt8) (w:World) (hrd:Dg S w v c) (hs:c.length≤1000000) (hT:Lib.Utf8Tabs 0 1 w):
 Calls Tryz.prog 196 #[.int .i64 k,v] w (Nm k c w):=by
 by_cases hk:Ar k<0
 ·exact EF k S v c w hk
 obtain⟨W,hW⟩:∃W:Nat,Ar k=(W:Int):=⟨(Ar k).toNat,by omega⟩
 have hW4:W≤4:=by
  rcases Dl k hk with rfl|rfl|rfl|rfl|rfl|rfl|rfl<;>(revert hW;unfold Ar;simp;omega)
 by_cases h0:W=0
 ·exact wB k S v c w hrd hs (by rw[hW,h0];rfl) hT
 by_cases h1:W=1
 ·exact EI k S v c w hrd hs W hW (by omega) (by omega) hW4 hT (by rw[h1];exact Nat.mod_one _)
 by_cases hm:c.length%W=0
 ·exact EH k S v c w hrd hs W hW (by omega) hW4 hT hm
 ·exact EG k S v c w hrd W hW (by omega) hm
end Go.Proofs.YtokmjjkbginodaaGreatDoor
