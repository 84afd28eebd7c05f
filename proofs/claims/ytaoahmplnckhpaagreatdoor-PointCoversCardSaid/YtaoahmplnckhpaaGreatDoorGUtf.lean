/- GUtf: the texts Utf, one behind the other. No condition but what each lemma says. -/
import Derived.Lib.Hide
import Derived.Lib.ValidLaws
import Derived.Lib.RuneCount
namespace Go.Proofs.YtaoahmplnckhpaaGreatDoor
open Go.Lib
def D6 (x:Nat):Bool:=decide (x<55296)||(decide (57344≤x)&&decide (x≤1114111))
def Js (x:Nat):List Nat:=
 if x<128 then [x] else if x<2048 then [192+x/64,128+x%64]
 else if x<65536 then [224+x/4096,128+x/64%64,128+x%64]
 else [240+x/262144,128+x/4096%64,128+x/64%64,128+x%64]
def enc (x:Nat):List UInt8:=(Js x).map UInt8.ofNat
def Dc (x:Nat):List UInt8:=if D6 x then enc x else []
theorem Co (x:Nat):D6 x=true↔x<55296∨(57344≤x∧x≤1114111):=by
 simp[D6]
theorem nH (x:Nat):1≤(Js x).length∧(Js x).length≤4:=by
 unfold Js;(repeat' split)<;>simp
theorem E2 (x:Nat):1≤(enc x).length∧(enc x).length≤4:=by
 unfold enc;rw[List.length_map];exact nH x
theorem uK (x:Nat) (h:D6 x=true):∀y∈Js x,y<256:=by
 rw[Co] at h
 unfold Js
 intro y hy
 (repeat' split at hy)<;>simp at hy<;>omega
theorem Bo (y:Nat) (h:y<256):(UInt8.ofNat y).toNat=y:=by
 simp[UInt8.toNat_ofNat',Nat.mod_eq_of_lt h]
theorem Jt (x:Nat) (hx:D6 x=true) (t:List UInt8):
 decodeL (enc x++t)=(x,(enc x).length):=by
 have hl:=uK x hx
 rw[Co] at hx
 rw[decodeL_N]
 unfold enc Js at*
 by_cases h1:x<128
 ·rw[if_pos h1] at hl⊢
  simp only[List.mem_cons,List.not_mem_nil,or_false,forall_eq] at hl
  simp[Bo _ hl,decodeN,h1]
 ·rw[if_neg h1] at hl⊢
  by_cases h2:x<2048
  ·rw[if_pos h2] at hl⊢
   have a0:192+x/64<256:=by omega
   have a1:128+x%64<256:=by omega
   simp only[List.map_cons,List.map_nil,List.cons_append,List.nil_append,List.getD_cons_zero,List.getD_cons_succ,Bo _ a0,Bo _ a1,List.length_cons,decodeN]
   rw[if_neg (by omega),if_pos (by omega),if_pos (by omega)]
   congr 1;omega
  ·rw[if_neg h2] at hl⊢
   by_cases h3:x<65536
   ·rw[if_pos h3] at hl⊢
    have a0:224+x/4096<256:=by omega
    have a1:128+x/64%64<256:=by omega
    have a2:128+x%64<256:=by omega
    simp only[List.map_cons,List.map_nil,List.cons_append,List.nil_append,List.getD_cons_zero,List.getD_cons_succ,Bo _ a0,Bo _ a1,Bo _ a2,List.length_cons,decodeN]
    have e:(224+x/4096)%16*4096+(128+x/64%64)%64*64+(128+x%64)%64=x:=by omega
    rw[if_neg (by omega),if_neg (by omega),if_pos (by omega),e,if_pos (by omega)];rfl
   ·rw[if_neg h3] at hl⊢
    have a0:240+x/262144<256:=by omega
    have a1:128+x/4096%64<256:=by omega
    have a2:128+x/64%64<256:=by omega
    have a3:128+x%64<256:=by omega
    simp only[List.map_cons,List.map_nil,List.cons_append,List.nil_append,List.getD_cons_zero,List.getD_cons_succ,Bo _ a0,Bo _ a1,Bo _ a2,Bo _ a3,List.length_cons,decodeN]
    have e:(240+x/262144)%8*262144+(128+x/4096%64)%64*4096+(128+x/64%64)%64*64+(128+x%64)%64=x:=by omega
    rw[if_neg (by omega),if_neg (by omega),if_neg (by omega),if_pos (by omega),e,if_pos (by omega)];rfl
def D7 (b:Nat):Option (Nat×Nat):=
 if 240≤b∧b<248 then some (3,b-240) else if 224≤b∧b<240 then some (2,b-224)
 else if 192≤b∧b<224 then some (1,b-192) else if 128≤b then none else some (0,b)
def Dq (t:List UInt8):Nat→Nat→Nat→Option Nat
 |0,_,x=>some x
 |n+1,k,x=>if(t.getD k 0).toNat<128∨192≤(t.getD k 0).toNat then none else Dq t n (k+1) (x*64+(t.getD k 0).toNat-128)
def Fk (t:List UInt8):Option (Nat×Nat):=
 match D7 (t.getD 0 0).toNat with
 |none=>none
 |some (n,x0)=>if t.length≤n then none else
  match Dq t n 1 x0 with
  |none=>none
  |some x=>if Dc x=t.take (n+1) then some (x,n+1) else none
theorem Ps (t:List UInt8) (k:Nat):(t.getD k 0).toNat<256:=(t.getD k 0).toNat_lt
theorem Xb {x:Nat} {l:List UInt8} (h:Dc x=l) (hl:l≠[]):D6 x=true∧enc x=l:=by
 unfold Dc at h
 by_cases hs:D6 x=true
 ·rw[if_pos hs] at h;exact⟨hs,h⟩
 ·rw[if_neg hs] at h;exact absurd h.symm hl
theorem Lr {t:List UInt8} {x k:Nat} (ht:t≠[]) (h:Fk t=some (x,k)):
 D6 x=true∧t=enc x++t.drop k∧k=(enc x).length:=by
 unfold Fk at h
 split at h
 ·cases h
 ·rename_i n x0 hl
  split at h
  ·cases h
  ·rename_i hn
   split at h
   ·cases h
   ·rename_i y hc
    split at h
    ·rename_i ho
     simp only[Option.some.injEq,Prod.mk.injEq] at h
     obtain⟨rfl,rfl⟩:=h
     have hne:t.take (n+1)≠[]:=by
      intro e
      have:=congrArg List.length e
      rw[List.length_take] at this
      simp at this
      exact ht this
     obtain⟨hs,he⟩:=Xb ho hne
     refine⟨hs,?_,?_⟩
     ·rw[he,List.take_append_drop]
     ·rw[he,List.length_take];omega
    ·cases h
theorem Ko (t:List UInt8) (k:Nat) (h:k<t.length):t.take (k+1)=t.take k++[t.getD k 0]:=by
 rw[List.take_succ_eq_append_getElem h,List.getD_eq_getElem?_getD,List.getElem?_eq_getElem h];rfl
theorem Fl (b:UInt8) (y:Nat) (h:b.toNat=y):UInt8.ofNat y=b:=by
 subst h;simp
theorem Ml {t:List UInt8} (ht:t≠[]) (h:decodeL t≠(65533,1)):Fk t=some (decodeL t):=by
 have hlen:0<t.length:=List.length_pos_iff.2 ht
 rw[decodeL_N] at h⊢
 have g0:=Ps t 0
 have g1:=Ps t 1
 have g2:=Ps t 2
 have g3:=Ps t 3
 have t1:t.take 1=[t.getD 0 0]:=by rw[Ko t 0 hlen];rfl
 obtain⟨B0,hB0⟩:∃B,t.getD 0 0=B:=⟨_,rfl⟩
 obtain⟨B1,hB1⟩:∃B,t.getD 1 0=B:=⟨_,rfl⟩
 obtain⟨B2,hB2⟩:∃B,t.getD 2 0=B:=⟨_,rfl⟩
 obtain⟨B3,hB3⟩:∃B,t.getD 3 0=B:=⟨_,rfl⟩
 have t2:1<t.length→t.take 2=[B0,B1]:=fun hh=>by rw[Ko t 1 hh,t1,hB0,hB1];rfl
 have t3:2<t.length→t.take 3=[B0,B1,B2]:=fun hh=>by rw[Ko t 2 hh,t2 (by omega),hB2];rfl
 have t4:3<t.length→t.take 4=[B0,B1,B2,B3]:=fun hh=>by rw[Ko t 3 hh,t3 (by omega),hB3];rfl
 rw[hB0] at t1
 unfold Fk
 rw[hB0,hB1,hB2,hB3] at h
 rw[hB0,hB1,hB2,hB3]
 rw[hB0] at g0
 rw[hB1] at g1
 rw[hB2] at g2
 rw[hB3] at g3
 by_cases c0:B0.toNat<128
 ·have hl:D7 B0.toNat=some (0,B0.toNat):=by
   unfold D7;rw[if_neg (by omega),if_neg (by omega),if_neg (by omega),if_neg (by omega)]
  rw[hl]
  have hd:decodeN t.length B0.toNat B1.toNat B2.toNat B3.toNat=(B0.toNat,1):=by unfold decodeN;rw[if_pos c0]
  rw[hd]
  have ho:Dc B0.toNat=t.take 1:=by
   rw[t1];unfold Dc;rw[if_pos (by rw[Co];omega)];unfold enc Js;rw[if_pos c0];simp
  simp only[Dq]
  rw[if_neg (by omega),if_pos ho]
 ·by_cases c1:B0.toNat/32=6∧(1<t.length∧B1.toNat/64=2)
  ·by_cases cc:B0.toNat%32*64+B1.toNat%64≥128
   ·have hd:decodeN t.length B0.toNat B1.toNat B2.toNat B3.toNat=(B0.toNat%32*64+B1.toNat%64,2):=by
     unfold decodeN;rw[if_neg c0,if_pos c1,if_pos cc]
    rw[hd]
    have hl:D7 B0.toNat=some (1,B0.toNat-192):=by
     unfold D7;rw[if_neg (by omega),if_neg (by omega),if_pos (by omega)]
    rw[hl]
    have hx:(B0.toNat-192)*64+B1.toNat-128=B0.toNat%32*64+B1.toNat%64:=by omega
    have ho:Dc (B0.toNat%32*64+B1.toNat%64)=t.take 2:=by
     rw[t2 c1.2.1];unfold Dc;rw[if_pos (by rw[Co];omega)];unfold enc Js
     rw[if_neg (by omega),if_pos (by omega)]
     simp only[List.map_cons,List.map_nil]
     rw[Fl B0 _ (by omega),Fl B1 _ (by omega)]
    simp only[Dq,hB1]
    rw[if_neg (by omega),if_neg (by omega),hx]
    simp only[]
    rw[if_pos ho]
   ·exfalso;apply h;unfold decodeN;rw[if_neg c0,if_pos c1,if_neg cc]
  ·by_cases c2:B0.toNat/16=14∧(1<t.length∧B1.toNat/64=2)∧(2<t.length∧B2.toNat/64=2)
   ·by_cases cc:B0.toNat%16*4096+B1.toNat%64*64+B2.toNat%64≥2048∧(B0.toNat%16*4096+B1.toNat%64*64+B2.toNat%64<55296∨(57344≤B0.toNat%16*4096+B1.toNat%64*64+B2.toNat%64∧B0.toNat%16*4096+B1.toNat%64*64+B2.toNat%64≤1114111))
    ·have hd:decodeN t.length B0.toNat B1.toNat B2.toNat B3.toNat=(B0.toNat%16*4096+B1.toNat%64*64+B2.toNat%64,3):=by
      unfold decodeN;rw[if_neg c0,if_neg c1,if_pos c2,if_pos cc]
     rw[hd]
     have hl:D7 B0.toNat=some (2,B0.toNat-224):=by
      unfold D7;rw[if_neg (by omega),if_pos (by omega)]
     rw[hl]
     have hx:((B0.toNat-224)*64+B1.toNat-128)*64+B2.toNat-128=B0.toNat%16*4096+B1.toNat%64*64+B2.toNat%64:=by omega
     have ho:Dc (B0.toNat%16*4096+B1.toNat%64*64+B2.toNat%64)=t.take 3:=by
      rw[t3 c2.2.2.1];unfold Dc;rw[if_pos (by rw[Co];omega)];unfold enc Js
      rw[if_neg (by omega),if_neg (by omega),if_pos (by omega)]
      simp only[List.map_cons,List.map_nil]
      rw[Fl B0 _ (by omega),Fl B1 _ (by omega),Fl B2 _ (by omega)]
     simp only[Dq,hB1,hB2]
     rw[if_neg (by omega),if_neg (by omega),if_neg (by omega),hx]
     simp only[]
     rw[if_pos ho]
    ·exfalso;apply h;unfold decodeN;rw[if_neg c0,if_neg c1,if_pos c2,if_neg cc]
   ·by_cases c3:B0.toNat/8=30∧(1<t.length∧B1.toNat/64=2)∧(2<t.length∧B2.toNat/64=2)∧(3<t.length∧B3.toNat/64=2)
    ·by_cases cc:B0.toNat%8*262144+B1.toNat%64*4096+B2.toNat%64*64+B3.toNat%64≥65536∧(B0.toNat%8*262144+B1.toNat%64*4096+B2.toNat%64*64+B3.toNat%64<55296∨(57344≤B0.toNat%8*262144+B1.toNat%64*4096+B2.toNat%64*64+B3.toNat%64∧B0.toNat%8*262144+B1.toNat%64*4096+B2.toNat%64*64+B3.toNat%64≤1114111))
     ·have hd:decodeN t.length B0.toNat B1.toNat B2.toNat B3.toNat=(B0.toNat%8*262144+B1.toNat%64*4096+B2.toNat%64*64+B3.toNat%64,4):=by
       unfold decodeN;rw[if_neg c0,if_neg c1,if_neg c2,if_pos c3,if_pos cc]
      rw[hd]
      have hl:D7 B0.toNat=some (3,B0.toNat-240):=by
       unfold D7;rw[if_pos (by omega)]
      rw[hl]
      have hx:(((B0.toNat-240)*64+B1.toNat-128)*64+B2.toNat-128)*64+B3.toNat-128=B0.toNat%8*262144+B1.toNat%64*4096+B2.toNat%64*64+B3.toNat%64:=by omega
      have ho:Dc (B0.toNat%8*262144+B1.toNat%64*4096+B2.toNat%64*64+B3.toNat%64)=t.take 4:=by
       rw[t4 c3.2.2.2.1];unfold Dc;rw[if_pos (by rw[Co];omega)];unfold enc Js
       rw[if_neg (by omega),if_neg (by omega),if_neg (by omega)]
       simp only[List.map_cons,List.map_nil]
       rw[Fl B0 _ (by omega),Fl B1 _ (by omega),Fl B2 _ (by omega),Fl B3 _ (by omega)]
      simp only[Dq,hB1,hB2,hB3]
      rw[if_neg (by omega),if_neg (by omega),if_neg (by omega),if_neg (by omega),hx]
      simp only[]
      rw[if_pos ho]
     ·exfalso;apply h;unfold decodeN;rw[if_neg c0,if_neg c1,if_neg c2,if_pos c3,if_neg cc]
    ·exfalso;apply h;unfold decodeN;rw[if_neg c0,if_neg c1,if_neg c2,if_neg c3]
theorem nI (t:List UInt8) (ht:t≠[]):Fk t=if decodeL t=(65533,1) then none else some (decodeL t):=by
 split
 ·rename_i h
  cases hs:Fk t with
  |none=>rfl
  |some p=>
   obtain⟨x,k⟩:=p
   obtain⟨h1,h2,h3⟩:=Lr ht hs
   rw[h2,Jt x h1] at h
   simp only[Prod.mk.injEq] at h
   obtain⟨rfl,h4⟩:=h
   have:(enc 65533).length=3:=by decide
   omega
 ·rename_i h
  exact Ml ht h
def Xc:Nat→List UInt8→List Nat
 |0,_=>[]
 |n+1,l=>if l=[] then [] else(decodeL l).1::Xc n (l.drop (decodeL l).2)
def rns (l:List UInt8):List Nat:=Xc l.length l
theorem Ju (l:List UInt8) (h:l≠[]):1≤(decodeL l).2:=by
 have:0<l.length:=List.length_pos_iff.2 h
 unfold decodeL
 exact decode_width_pos ⟨l.toArray⟩ 0 (by simpa[ByteArray.size] using this)
theorem iX:∀(n m:Nat) (l:List UInt8),l.length≤n→l.length≤m→Xc n l=Xc m l:=by
 intro n
 induction n with
 |zero=>intro m l h _;have:l=[]:=List.eq_nil_of_length_eq_zero (by omega);subst this;cases m<;>simp[Xc]
 |succ n ih=>
  intro m l h1 h2
  cases m with
  |zero=>have:l=[]:=List.eq_nil_of_length_eq_zero (by omega);subst this;simp[Xc]
  |succ m=>
   simp only[Xc]
   split
   ·rfl
   ·rename_i hne
    have:=Ju l hne
    have hl:0<l.length:=List.length_pos_iff.2 hne
    rw[ih m (l.drop (decodeL l).2) (by rw[List.length_drop];omega) (by rw[List.length_drop];omega)]
theorem Ut:rns []=[]:=rfl
theorem Xd (l:List UInt8) (h:l≠[]):rns l=(decodeL l).1::rns (l.drop (decodeL l).2):=by
 have hl:0<l.length:=List.length_pos_iff.2 h
 have:=Ju l h
 unfold rns
 obtain⟨n,hn⟩:∃n,l.length=n+1:=⟨l.length-1,by omega⟩
 rw[hn,Xc,if_neg h]
 rw[iX n (l.drop (decodeL l).2).length (l.drop (decodeL l).2) (by rw[List.length_drop];omega) (Nat.le_refl _)]
theorem aG (l:List UInt8) (h:l≠[]) (hv:validD l=true):
 D6 (decodeL l).1=true∧l=enc (decodeL l).1++l.drop (decodeL l).2∧(decodeL l).2=(enc (decodeL l).1).length∧validD (l.drop (decodeL l).2)=true∧decodeL l≠(65533,1):=by
 rw[validD_step l h] at hv
 have hne:decodeL l≠(65533,1):=by
  intro e;rw[e] at hv;simp at hv
 have hs:=Ml h hne
 obtain⟨a,b,c⟩:=Lr (x:=(decodeL l).1) (k:=(decodeL l).2) h hs
 refine⟨a,b,c,?_,hne⟩
 rw[if_neg (by intro e;exact hne (Prod.ext e.1 e.2))] at hv
 exact hv
theorem iY (l:List UInt8) (h:l≠[]) (he:Fk l=none):validD l=false:=by
 rw[nI l h] at he
 split at he
 ·rename_i hd
  rw[validD_step l h,hd];simp
 ·cases he
theorem Tf (x:Nat) (hx:D6 x=true) (t:List UInt8):validD (enc x++t)=validD t∧rns (enc x++t)=x::rns t:=by
 have hl:=(E2 x).1
 have hne:enc x++t≠[]:=by
  intro e;have:=congrArg List.length e;rw[List.length_append] at this;simp at this;rw[this.1] at hl;simp at hl
 have hd:=Jt x hx t
 constructor
 ·rw[validD_step _ hne,hd,if_neg]
  ·simp
  ·rintro⟨h1,h2⟩
   simp only at h1 h2
   subst h1
   revert h2;decide
 ·rw[Xd _ hne,hd];simp
theorem aH (xs:List Nat) (h:∀x∈xs,D6 x=true):validD (xs.flatMap enc)=true∧rns (xs.flatMap enc)=xs:=by
 induction xs with
 |nil=>exact⟨rfl,rfl⟩
 |cons x xs ih=>
  obtain⟨a,b⟩:=ih fun y hy=>h y (List.mem_cons_of_mem _ hy)
  obtain⟨c,d⟩:=Tf x (h x List.mem_cons_self) (xs.flatMap enc)
  rw[List.flatMap_cons,c,d,a,b]
  exact⟨rfl,rfl⟩
theorem Tg:∀(n:Nat) (l:List UInt8),l.length≤n→validD l=true→(∀x∈rns l,D6 x=true)∧(rns l).flatMap enc=l:=by
 intro n
 induction n with
 |zero=>intro l h _;have:l=[]:=List.eq_nil_of_length_eq_zero (by omega);subst this;simp[Ut]
 |succ n ih=>
  intro l h hv
  by_cases hl:l=[]
  ·subst hl;simp[Ut]
  ·obtain⟨a,b,c,d,_⟩:=aG l hl hv
   have hp:=Ju l hl
   have hll:0<l.length:=List.length_pos_iff.2 hl
   obtain⟨e,f⟩:=ih (l.drop (decodeL l).2) (by rw[List.length_drop];omega) d
   rw[Xd l hl]
   refine⟨?_,?_⟩
   ·intro x hx
    rcases List.mem_cons.1 hx with rfl|hx
    ·exact a
    ·exact e x hx
   ·rw[List.flatMap_cons,f]
    exact b.symm
theorem Jv (l:List UInt8) (hv:validD l=true):∀x∈rns l,D6 x=true:=(Tg _ l (Nat.le_refl _) hv).1
theorem G3 (l:List UInt8) (hv:validD l=true):(rns l).flatMap enc=l:=(Tg _ l (Nat.le_refl _) hv).2
theorem Zh {p:Prop} (h:p):Go.RowKit.Hid p:=h
theorem Ak {α:Type _} {l:List α} {i:Nat} (h:i<l.length):l[i]?=some l[i]:=List.getElem?_eq_getElem h
theorem As {α:Type _} {i:Nat} {a:α} {l:List α}:l[i]?=some a↔∃h:i<l.length,l[i]=a:=List.getElem?_eq_some_iff
theorem Ap (a b:Bool):((a&&b)=true)=(a=true∧b=true):=Bool.and_eq_true a b
theorem Ag {α:Type _} {a:α} {as:List α}:(a::as).length=as.length+1:=List.length_cons
theorem Aj {α:Type _} {as bs:List α}:(as++bs).length=as.length+bs.length:=List.length_append
theorem Al {α:Type _} {i:Nat} {l:List α}:(l.take i).length=min i l.length:=List.length_take
theorem Aw {α:Type _} {i:Nat} {l:List α}:(l.drop i).length=l.length-i:=List.length_drop
theorem Bk {α:Type _} {l:List α} {i:Nat} {a:α} (h:l[i]?=some a):a∈l:=List.mem_of_getElem? h
end Go.Proofs.YtaoahmplnckhpaaGreatDoor
