/- GUtf: the texts Utf, one behind the other. No condition but what each lemma says. -/
import Derived.KernelRfl
import Derived.Lib.Hide
import Derived.Lib.ValidLaws
import Derived.Lib.RuneCount
set_option linter.all false
namespace Go.Proofs.YtbedjionhmaafaaGreatDoor
open Go.Lib
def A1:=@And.intro
def Br:=@Array.getElem?_eq_some_iff
def Cg:=@Array.getElem?_toList
def Bm:=@Array.length_toList
def C6:=@Bool.and_eq_false_iff
def Bb:=@Bool.and_eq_true_iff
def Dt:=@Bool.and_false
def Di:=@Bool.and_true
def Dh:=@Bool.eq_false_iff
def Bz:=@Bool.eq_iff_iff
def C4:=@Bool.false_and
def Ck:=@Bool.false_eq_true
def C9:=@Bool.false_or
def Ca:=@Bool.not_eq_true'
def Ds:=@Bool.or_eq_false_iff
def Co:=@Bool.or_eq_true
def Dz:=@Bool.or_false
def B5:=@Bool.or_true
def Cd:=@Bool.true_and
def B4:=@Bool.true_or
def As:=@Decidable.not_not
def Cr:=@Int.toNat_natCast
def D3:=@Int.toNat_of_nonneg
def D5:=@List.all_eq_false
def B0:=@List.all_eq_true
def Bt:=@List.append_assoc
def Am:=@List.append_nil
def Cn:=@List.cons.injEq
def Ak:=@List.cons_append
def C3:=@List.drop_drop
def A5:=@List.drop_eq_getElem_cons
def Bp:=@List.drop_eq_nil_of_le
def C2:=@List.drop_take
def Bn:=@List.eq_nil_of_length_eq_zero
def Ct:=@List.flatMap_append
def A4:=@List.flatMap_cons
def Cq:=@List.flatten_cons
def Dw:=@List.foldl_append
def Do:=@List.foldl_cons
def Bo:=@List.getD_eq_getElem?_getD
def Bu:=@List.getElem?_append_left
def Bw:=@List.getElem?_append_right
def De:=@List.getElem?_cons_succ
def Cy:=@List.getElem?_cons_zero
def B2:=@List.getElem?_drop
def D1:=@List.getElem?_eq_none
def Bk:=@List.getElem?_map
def Bx:=@List.getElem?_take
def Dc:=@List.getElem_mem
def Df:=@List.getElem_of_mem
def Dl:=@List.length_cons
def Dk:=@List.length_drop
def Cw:=@List.length_eq_zero_iff
def Ba:=@List.length_map
def Ax:=@List.length_nil
def Cc:=@List.length_singleton
def Dx:=@List.length_take
def Cp:=@List.map_append
def Bc:=@List.map_cons
def Dg:=@List.map_map
def Cm:=@List.mem_append
def Bj:=@List.mem_cons
def Be:=@List.mem_cons_of_mem
def Bd:=@List.mem_cons_self
def Cl:=@List.mem_map
def Bh:=@List.mem_singleton
def Ap:=@List.nil_append
def Cb:=@List.not_mem_nil
def Dm:=@List.range_succ
def C5:=@List.take_append_drop
def Bv:=@List.take_length
def B3:=@List.take_of_length_le
def B7:=@List.take_succ_eq_append_getElem
def C8:=@Nat.add_assoc
def C7:=@Nat.add_mul
def Cj:=@Nat.add_sub_cancel
def Aw:=@Nat.eq_of_beq_eq_true
def Ay:=@Nat.le_of_ble_eq_true
def At:=@Nat.le_refl
def Bi:=@Nat.le_trans
def Dd:=@Nat.lt_of_le_of_lt
def Ci:=@Nat.lt_of_lt_of_le
def Dv:=@Nat.mul_comm
def D2:=@Nat.mul_le_mul_left
def Ce:=@Nat.mul_le_mul_right
def Dq:=@Nat.mul_one
def Dp:=@Nat.one_mul
def Db:=@Nat.pow_succ
def A0:=@Nat.zero_add
def Cu:=@Option.getD_some
def A8:=@Option.map_eq_some_iff
def Dy:=@Option.map_none
def Ch:=@Option.map_some
def Az:=@Option.some.inj
def A7:=@Option.some.injEq
def Cz:=@Or.inl
def Cv:=@Or.inr
def B8:=@UInt8.toNat_inj
def B6:=@UInt8.toNat_ofNat'
def Bg:=@absurd
def An:=@beq_eq_false_iff_ne
def A9:=@beq_iff_eq
def Da:=@beq_self_eq_true
def B1:=@bne_eq_false_iff_eq
def Av:=@bne_iff_ne
def Cf:=@congrArg
def Ao:=@decide_eq_false
def Ar:=@decide_eq_false_iff_not
def Aq:=@decide_eq_true
def A3:=@decide_eq_true_eq
def A2:=@decide_eq_true_iff
def D4:=@dif_neg
def D0:=@dif_pos
def Ai:=@if_neg
def Aj:=@if_pos
def Du:=@ne_eq
theorem Aa {p:Prop} (h:p:=by omega):p:=h
theorem Ab {p:Prop} (h:p:=by simp):p:=h
theorem Ac {p:Prop} (h:p:=by kernel_rfl):p:=h
theorem Ae {p:Prop} (h:p:=by decide):p:=h
theorem Af {p:Prop} (h:p:=by simp;omega):p:=h
theorem Ag {p:Prop} (h:p:=by as_aux_lemma=>kernel_rfl):p:=h
theorem Ah {p:Prop} (h:p:=by rfl):p:=h
variable {i:Nat}
def Ly (x:Nat):Bool:=decide (x<55296)||(decide (57344≤x)&&decide (x≤1114111))
def Vk (x:Nat):List Nat:=
 if x<128 then [x] else if x<2048 then [192+x/64,128+x%64]
 else if x<65536 then [224+x/4096,128+x/64%64,128+x%64]
 else [240+x/262144,128+x/4096%64,128+x/64%64,128+x%64]
def enc (x:Nat):List UInt8:=(Vk x).map UInt8.ofNat
def Qa (x:Nat):List UInt8:=if Ly x then enc x else []
theorem I0 (x:Nat):Ly x=true↔x<55296∨(57344≤x∧x≤1114111):=by
 simp[Ly]
theorem IX (x:Nat):1≤(Vk x).length∧(Vk x).length≤4:=by
 unfold Vk;(repeat' split)<;>simp
theorem N4 (x:Nat):1≤(enc x).length∧(enc x).length≤4:=by
 grind [enc,List.length_map,IX]
theorem TF (x:Nat) (h:Ly x=true):∀y∈Vk x,y<256:=by
 grind [I0,Vk]
theorem Gl (y:Nat) (h:y<256):(UInt8.ofNat y).toNat=y:=by
 simp_all
theorem Yh (x:Nat) (h:Ly x=true) (t:List UInt8):
 decodeL (enc x++t)=(x,(enc x).length):=by
 have a:=TF x h
 rw[I0] at h
 rw[decodeL_N]
 unfold enc Vk at*
 by_cases d:x<128
 ·rw[Aj d] at a⊢
  simp only[Bj,Cb,or_false,forall_eq] at a
  simp[Gl _ a,decodeN,d]
 ·rw[Ai d] at a⊢
  by_cases g:x<2048
  ·rw[Aj g] at a⊢
   have b:192+x/64<256:=Aa
   have c:128+x%64<256:=Aa
   simp only[Bc,List.map_nil,Ak,Ap,List.getD_cons_zero,List.getD_cons_succ,Gl _ b,Gl _ c,Dl,decodeN]
   grind
  ·rw[Ai g] at a⊢
   by_cases f:x<65536
   ·rw[Aj f] at a⊢
    have b:224+x/4096<256:=Aa
    have c:128+x/64%64<256:=Aa
    have e:128+x%64<256:=Aa
    simp only[Bc,List.map_nil,Ak,Ap,List.getD_cons_zero,List.getD_cons_succ,Gl _ b,Gl _ c,Gl _ e,Dl,decodeN]
    grind
   ·rw[Ai f] at a⊢
    have b:240+x/262144<256:=Aa
    have c:128+x/4096%64<256:=Aa
    have e:128+x/64%64<256:=Aa
    have j:128+x%64<256:=Aa
    simp only[Bc,List.map_nil,Ak,Ap,List.getD_cons_zero,List.getD_cons_succ,Gl _ b,Gl _ c,Gl _ e,Gl _ j,Dl,decodeN]
    grind
def Vm (b:Nat):Option (Nat×Nat):=
 if 240≤b∧b<248 then some (3,b-240) else if 224≤b∧b<240 then some (2,b-224)
 else if 192≤b∧b<224 then some (1,b-192) else if 128≤b then none else some (0,b)
def fC (t:List UInt8):Nat→Nat→Nat→Option Nat
 |0,_,x=>some x
 |n+1,k,x=>if(t.getD k 0).toNat<128∨192≤(t.getD k 0).toNat then none else fC t n (k+1) (x*64+(t.getD k 0).toNat-128)
def xB (t:List UInt8):Option (Nat×Nat):=
 match Vm (t.getD 0 0).toNat with
 |none=>none
 |some (n,x0)=>if t.length≤n then none else
  match fC t n 1 x0 with
  |none=>none
  |some x=>if Qa x=t.take (n+1) then some (x,n+1) else none
theorem Ze (t:List UInt8) (k:Nat):(t.getD k 0).toNat<256:=(t.getD k 0).toNat_lt
theorem lU {x:Nat} {l:List UInt8} (h:Qa x=l) (a:l≠[]):Ly x=true∧enc x=l:=by
 unfold Qa at h
 grind
theorem rN {t:List UInt8} {x k:Nat} (c:t≠[]) (h:xB t=some (x,k)):
 Ly x=true∧t=enc x++t.drop k∧k=(enc x).length:=by
 unfold xB at h
 split at h
 ·cases h
 ·rename_i n g f
  split at h
  ·cases h
  ·rename_i d
   split at h
   ·cases h
   ·rename_i y j
    split at h
    ·rename_i b
     simp only[A7,Prod.mk.injEq] at h
     obtain⟨rfl,rfl⟩:=h
     have a:t.take (n+1)≠[]:=by
      intro e
      have:=Cf List.length e
      rw[Dx] at this
      simp at this
      exact c this
     obtain⟨m,l⟩:=lU b a
     grind [List.take_append_drop,List.length_take]
    ·cases h
theorem Ta (t:List UInt8) (k:Nat) (h:k<t.length):t.take (k+1)=t.take k++[t.getD k 0]:=by
 simp_all
theorem L1 (b:UInt8) (y:Nat) (h:b.toNat=y):UInt8.ofNat y=b:=by
 subst h;simp
theorem iN {t:List UInt8} (C:t≠[]) (h:decodeL t≠(65533,1)):xB t=some (decodeL t):=by
 have p:0<t.length:=List.length_pos_iff.2 C
 rw[decodeL_N] at h⊢
 have F:=Ze t 0
 have z:=Ze t 1
 have x:=Ze t 2
 have A:=Ze t 3
 have u:t.take 1=[t.getD 0 0]:=by rw[Ta t 0 p];rfl
 obtain⟨a,j⟩:∃B,t.getD 0 0=B:=⟨_,rfl⟩
 obtain⟨b,e⟩:∃B,t.getD 1 0=B:=⟨_,rfl⟩
 obtain⟨c,f⟩:∃B,t.getD 2 0=B:=⟨_,rfl⟩
 obtain⟨d,g⟩:∃B,t.getD 3 0=B:=⟨_,rfl⟩
 have E:1<t.length→t.take 2=[a,b]:=fun v=>by grind [Ta]
 have H:2<t.length→t.take 3=[a,b,c]:=fun v=>by grind [Ta]
 have y:3<t.length→t.take 4=[a,b,c,d]:=fun v=>by grind [Ta]
 rw[j] at u
 unfold xB
 rw[j,e,f,g] at h
 rw[j,e,f,g]
 rw[j] at F
 rw[e] at z
 rw[f] at x
 rw[g] at A
 by_cases l:a.toNat<128
 ·have k:Vm a.toNat=some (0,a.toNat):=by
   unfold Vm;rw[Ai Aa,Ai Aa,Ai Aa,Ai Aa]
  rw[k]
  have m:decodeN t.length a.toNat b.toNat c.toNat d.toNat=(a.toNat,1):=by unfold decodeN;rw[Aj l]
  rw[m]
  have q:Qa a.toNat=t.take 1:=by
   rw[u];unfold Qa;rw[Aj (by rw[I0];omega)];unfold enc Vk;rw[Aj l];simp
  simp only[fC]
  rw[Ai Aa,Aj q]
 ·by_cases o:a.toNat/32=6∧(1<t.length∧b.toNat/64=2)
  ·by_cases n:a.toNat%32*64+b.toNat%64≥128
   ·have m:decodeN t.length a.toNat b.toNat c.toNat d.toNat=(a.toNat%32*64+b.toNat%64,2):=by
     unfold decodeN;rw[Ai l,Aj o,Aj n]
    rw[m]
    have k:Vm a.toNat=some (1,a.toNat-192):=by
     unfold Vm;rw[Ai Aa,Ai Aa,Aj Aa]
    rw[k]
    have w:(a.toNat-192)*64+b.toNat-128=a.toNat%32*64+b.toNat%64:=Aa
    have q:Qa (a.toNat%32*64+b.toNat%64)=t.take 2:=by
     rw[E o.2.1];unfold Qa;rw[Aj (by rw[I0];omega)];unfold enc Vk
     rw[Ai Aa,Aj Aa]
     simp only[Bc,List.map_nil]
     rw[L1 a _ Aa,L1 b _ Aa]
    simp only[fC,e]
    grind
   ·exfalso;apply h;unfold decodeN;rw[Ai l,Aj o,Ai n]
  ·by_cases r:a.toNat/16=14∧(1<t.length∧b.toNat/64=2)∧(2<t.length∧c.toNat/64=2)
   ·by_cases n:a.toNat%16*4096+b.toNat%64*64+c.toNat%64≥2048∧(a.toNat%16*4096+b.toNat%64*64+c.toNat%64<55296∨(57344≤a.toNat%16*4096+b.toNat%64*64+c.toNat%64∧a.toNat%16*4096+b.toNat%64*64+c.toNat%64≤1114111))
    ·have m:decodeN t.length a.toNat b.toNat c.toNat d.toNat=(a.toNat%16*4096+b.toNat%64*64+c.toNat%64,3):=by
      unfold decodeN;rw[Ai l,Ai o,Aj r,Aj n]
     rw[m]
     have k:Vm a.toNat=some (2,a.toNat-224):=by
      unfold Vm;rw[Ai Aa,Aj Aa]
     rw[k]
     have w:((a.toNat-224)*64+b.toNat-128)*64+c.toNat-128=a.toNat%16*4096+b.toNat%64*64+c.toNat%64:=Aa
     have q:Qa (a.toNat%16*4096+b.toNat%64*64+c.toNat%64)=t.take 3:=by
      rw[H r.2.2.1];unfold Qa;rw[Aj (by rw[I0];omega)];unfold enc Vk
      rw[Ai Aa,Ai Aa,Aj Aa]
      simp only[Bc,List.map_nil]
      rw[L1 a _ Aa,L1 b _ Aa,L1 c _ Aa]
     simp only[fC,e,f]
     grind
    ·exfalso;apply h;unfold decodeN;grind
   ·by_cases s:a.toNat/8=30∧(1<t.length∧b.toNat/64=2)∧(2<t.length∧c.toNat/64=2)∧(3<t.length∧d.toNat/64=2)
    ·by_cases n:a.toNat%8*262144+b.toNat%64*4096+c.toNat%64*64+d.toNat%64≥65536∧(a.toNat%8*262144+b.toNat%64*4096+c.toNat%64*64+d.toNat%64<55296∨(57344≤a.toNat%8*262144+b.toNat%64*4096+c.toNat%64*64+d.toNat%64∧a.toNat%8*262144+b.toNat%64*4096+c.toNat%64*64+d.toNat%64≤1114111))
     ·have m:decodeN t.length a.toNat b.toNat c.toNat d.toNat=(a.toNat%8*262144+b.toNat%64*4096+c.toNat%64*64+d.toNat%64,4):=by
       unfold decodeN;rw[Ai l,Ai o,Ai r,Aj s,Aj n]
      rw[m]
      have k:Vm a.toNat=some (3,a.toNat-240):=by
       unfold Vm;rw[Aj Aa]
      rw[k]
      have w:(((a.toNat-240)*64+b.toNat-128)*64+c.toNat-128)*64+d.toNat-128=a.toNat%8*262144+b.toNat%64*4096+c.toNat%64*64+d.toNat%64:=Aa
      have q:Qa (a.toNat%8*262144+b.toNat%64*4096+c.toNat%64*64+d.toNat%64)=t.take 4:=by
       rw[y s.2.2.2.1];unfold Qa;rw[Aj (by rw[I0];omega)];unfold enc Vk
       rw[Ai Aa,Ai Aa,Ai Aa]
       simp only[Bc,List.map_nil]
       rw[L1 a _ Aa,L1 b _ Aa,L1 c _ Aa,L1 d _ Aa]
      simp only[fC,e,f,g]
      grind
     ·exfalso;apply h;unfold decodeN;grind
    ·exfalso;apply h;unfold decodeN;rw[Ai l,Ai o,Ai r,Ai s]
def rO:Nat→List UInt8→List Nat
 |0,_=>[]
 |n+1,l=>if l=[] then [] else(decodeL l).1::rO n (l.drop (decodeL l).2)
def rns (l:List UInt8):List Nat:=rO l.length l
theorem Se (l:List UInt8) (h:l≠[]):1≤(decodeL l).2:=by
 grind [List.length_pos_iff,decodeL,decode_width_pos,ByteArray.size]
theorem CN:∀(n m:Nat) (l:List UInt8),l.length≤n→l.length≤m→rO n l=rO m l:=by
 intro n
 induction n with
 |zero=>intro m l h _;have:l=[]:=Bn Aa;subst this;cases m<;>simp[rO]
 |succ n b=>
  intro m l a c
  cases m with
  |zero=>grind
  |succ m=>
   grind [rO,Se,List.length_pos_iff,decodeL,List.length_drop]
theorem xC:rns []=[]:=rfl
theorem lV (l:List UInt8) (h:l≠[]):rns l=(decodeL l).1::rns (l.drop (decodeL l).2):=by
 have b:0<l.length:=List.length_pos_iff.2 h
 have:=Se l h
 unfold rns
 obtain⟨n,a⟩:∃n,l.length=n+1:=⟨l.length-1,Aa⟩
 rw[a,rO,Ai h]
 rw[CN n (l.drop (decodeL l).2).length (l.drop (decodeL l).2) (by rw[Dk];omega) (At _)]
theorem rP (l:List UInt8) (h:l≠[]) (f:validD l=true):
 Ly (decodeL l).1=true∧l=enc (decodeL l).1++l.drop (decodeL l).2∧(decodeL l).2=(enc (decodeL l).1).length∧validD (l.drop (decodeL l).2)=true∧decodeL l≠(65533,1):=by
 rw[validD_step l h] at f
 have d:decodeL l≠(65533,1):=by
  intro e;rw[e] at f;simp at f
 have g:=iN h d
 obtain⟨a,b,c⟩:=rN (x:=(decodeL l).1) (k:=(decodeL l).2) h g
 grind
theorem CO (x:Nat) (g:Ly x=true) (t:List UInt8):validD (enc x++t)=validD t∧rns (enc x++t)=x::rns t:=by
 have d:=(N4 x).1
 have a:enc x++t≠[]:=by
  intro e;have:=Cf List.length e;rw[List.length_append] at this;simp at this;rw[this.1] at d;simp at d
 have f:=Yh x g t
 constructor
 ·rw[validD_step _ a,f,Ai]
  ·simp
  ·rintro⟨b,c⟩
   simp only at b c
   subst b
   revert c;decide
 ·rw[lV _ a,f];simp
theorem rQ (xs:List Nat) (h:∀x∈xs,Ly x=true):validD (xs.flatMap enc)=true∧rns (xs.flatMap enc)=xs:=by
 induction xs with
 |nil=>exact⟨rfl,rfl⟩
 |cons x xs e=>
  obtain⟨a,b⟩:=e fun y f=>h y (Be _ f)
  obtain⟨c,d⟩:=CO x (h x Bd) (xs.flatMap enc)
  grind
theorem fD:∀(n:Nat) (l:List UInt8),l.length≤n→validD l=true→(∀x∈rns l,Ly x=true)∧(rns l).flatMap enc=l:=by
 intro n
 induction n with
 |zero=>grind [List.eq_nil_of_length_eq_zero,xC]
 |succ n k=>
  intro l h m
  by_cases g:l=[]
  ·subst g;simp[xC]
  ·obtain⟨a,b,c,d,_⟩:=rP l g m
   have o:=Se l g
   have j:0<l.length:=List.length_pos_iff.2 g
   obtain⟨e,f⟩:=k (l.drop (decodeL l).2) (by rw[Dk];omega) d
   rw[lV l g]
   grind
theorem Vn (l:List UInt8) (a:validD l=true):∀x∈rns l,Ly x=true:=(fD _ l (At _) a).1
theorem Qb (l:List UInt8) (a:validD l=true):(rns l).flatMap enc=l:=(fD _ l (At _) a).2
theorem Zh {p:Prop} (h:p):Go.RowKit.Hid p:=h
theorem Ev {a:Type _} {l:List a} (h:i<l.length):l[i]?=some l[i]:=List.getElem?_eq_getElem h
theorem Ew {b:Type _} {a:b} {l:List b}:l[i]?=some a↔∃h:i<l.length,l[i]=a:=List.getElem?_eq_some_iff
theorem Et (a b:Bool):((a&&b)=true)=(a=true∧b=true):=Bool.and_eq_true a b
theorem D9 {b:Type _} {a:b} {c:List b}:(a::c).length=c.length+1:=Dl
theorem En {c:Type _} {b a:List c}:(b++a).length=b.length+a.length:=List.length_append
theorem Ec {a:Type _} {l:List a}:(l.take i).length=min i l.length:=Dx
theorem Eh {a:Type _} {l:List a}:(l.drop i).length=l.length-i:=Dk
theorem F9 {b:Type _} {l:List b} {a:b} (h:l[i]?=some a):a∈l:=List.mem_of_getElem? h
end Go.Proofs.YtbedjionhmaafaaGreatDoor
