/- GUtf: the texts Utf, one behind the other. No condition but what each lemma says. -/
import Derived.Lib.Hide
import Derived.Lib.ValidLaws
import Derived.Lib.RuneCount
namespace Go.Proofs.YtokmjjkbginodaaGreatDoor
open Go.Lib
def E7 (x:Nat):Bool:=decide (x<55296)||(decide (57344≤x)&&decide (x≤1114111))
def L8 (x:Nat):List Nat:=
 if x<128 then [x] else if x<2048 then [192+x/64,128+x%64]
 else if x<65536 then [224+x/4096,128+x/64%64,128+x%64]
 else [240+x/262144,128+x/4096%64,128+x/64%64,128+x%64]
def enc (x:Nat):List UInt8:=(L8 x).map UInt8.ofNat
def Du (x:Nat):List UInt8:=if E7 x then enc x else []
theorem C3 (x:Nat):E7 x=true↔x<55296∨(57344≤x∧x≤1114111):=by
 simp[E7]
theorem vS (x:Nat):1≤(L8 x).length∧(L8 x).length≤4:=by
 unfold L8;(repeat' split)<;>simp
theorem Gf (x:Nat):1≤(enc x).length∧(enc x).length≤4:=by
 unfold enc;rw[List.length_map];exact vS x
theorem DT (x:Nat) (h:E7 x=true):∀y∈L8 x,y<256:=by
 rw[C3] at h
 unfold L8
 intro y hy
 (repeat' split at hy)<;>simp at hy<;>omega
theorem Ce (y:Nat) (h:y<256):(UInt8.ofNat y).toNat=y:=by
 simp[UInt8.toNat_ofNat',Nat.mod_eq_of_lt h]
theorem L9 (x:Nat) (hx:E7 x=true) (t:List UInt8):
 decodeL (enc x++t)=(x,(enc x).length):=by
 have hl:=DT x hx
 rw[C3] at hx
 rw[decodeL_N]
 unfold enc L8 at*
 by_cases h1:x<128
 ·rw[if_pos h1] at hl⊢
  simp only[List.mem_cons,List.not_mem_nil,or_false,forall_eq] at hl
  simp[Ce _ hl,decodeN,h1]
 ·rw[if_neg h1] at hl⊢
  by_cases h2:x<2048
  ·rw[if_pos h2] at hl⊢
   have a0:192+x/64<256:=by omega
   have a1:128+x%64<256:=by omega
   simp only[List.map_cons,List.map_nil,List.cons_append,List.nil_append,List.getD_cons_zero,List.getD_cons_succ,Ce _ a0,Ce _ a1,List.length_cons,decodeN]
   rw[if_neg (by omega),if_pos (by omega),if_pos (by omega)]
   congr 1;omega
  ·rw[if_neg h2] at hl⊢
   by_cases h3:x<65536
   ·rw[if_pos h3] at hl⊢
    have a0:224+x/4096<256:=by omega
    have a1:128+x/64%64<256:=by omega
    have a2:128+x%64<256:=by omega
    simp only[List.map_cons,List.map_nil,List.cons_append,List.nil_append,List.getD_cons_zero,List.getD_cons_succ,Ce _ a0,Ce _ a1,Ce _ a2,List.length_cons,decodeN]
    have e:(224+x/4096)%16*4096+(128+x/64%64)%64*64+(128+x%64)%64=x:=by omega
    rw[if_neg (by omega),if_neg (by omega),if_pos (by omega),e,if_pos (by omega)];rfl
   ·rw[if_neg h3] at hl⊢
    have a0:240+x/262144<256:=by omega
    have a1:128+x/4096%64<256:=by omega
    have a2:128+x/64%64<256:=by omega
    have a3:128+x%64<256:=by omega
    simp only[List.map_cons,List.map_nil,List.cons_append,List.nil_append,List.getD_cons_zero,List.getD_cons_succ,Ce _ a0,Ce _ a1,Ce _ a2,Ce _ a3,List.length_cons,decodeN]
    have e:(240+x/262144)%8*262144+(128+x/4096%64)%64*4096+(128+x/64%64)%64*64+(128+x%64)%64=x:=by omega
    rw[if_neg (by omega),if_neg (by omega),if_neg (by omega),if_pos (by omega),e,if_pos (by omega)];rfl
def E8 (b:Nat):Option (Nat×Nat):=
 if 240≤b∧b<248 then some (3,b-240) else if 224≤b∧b<240 then some (2,b-224)
 else if 192≤b∧b<224 then some (1,b-192) else if 128≤b then none else some (0,b)
def Eo (t:List UInt8):Nat→Nat→Nat→Option Nat
 |0,_,x=>some x
 |n+1,k,x=>if(t.getD k 0).toNat<128∨192≤(t.getD k 0).toNat then none else Eo t n (k+1) (x*64+(t.getD k 0).toNat-128)
def Gz (t:List UInt8):Option (Nat×Nat):=
 match E8 (t.getD 0 0).toNat with
 |none=>none
 |some (n,x0)=>if t.length≤n then none else
  match Eo t n 1 x0 with
  |none=>none
  |some x=>if Du x=t.take (n+1) then some (x,n+1) else none
theorem Te (t:List UInt8) (k:Nat):(t.getD k 0).toNat<256:=(t.getD k 0).toNat_lt
theorem cN {x:Nat} {l:List UInt8} (h:Du x=l) (hl:l≠[]):E7 x=true∧enc x=l:=by
 unfold Du at h
 by_cases hs:E7 x=true
 ·rw[if_pos hs] at h;exact⟨hs,h⟩
 ·rw[if_neg hs] at h;exact absurd h.symm hl
theorem Oz {t:List UInt8} {x k:Nat} (ht:t≠[]) (h:Gz t=some (x,k)):
 E7 x=true∧t=enc x++t.drop k∧k=(enc x).length:=by
 unfold Gz at h
 split at h
 ·cases h
 ·rename_i n x0 hl
  split at h
  ·cases h
  ·rename_i hn
   split at h
   ·cases h
   ·rename_i y hc
    split at h
    ·rename_i ho
     simp only[Option.some.injEq,Prod.mk.injEq] at h
     obtain⟨rfl,rfl⟩:=h
     have hne:t.take (n+1)≠[]:=by
      intro e
      have:=congrArg List.length e
      rw[List.length_take] at this
      simp at this
      exact ht this
     obtain⟨hs,he⟩:=cN ho hne
     refine⟨hs,?_,?_⟩
     ·rw[he,List.take_append_drop]
     ·rw[he,List.length_take];omega
    ·cases h
theorem Nk (t:List UInt8) (k:Nat) (h:k<t.length):t.take (k+1)=t.take k++[t.getD k 0]:=by
 rw[List.take_succ_eq_append_getElem h,List.getD_eq_getElem?_getD,List.getElem?_eq_getElem h];rfl
theorem G0 (b:UInt8) (y:Nat) (h:b.toNat=y):UInt8.ofNat y=b:=by
 subst h;simp
theorem Pz {t:List UInt8} (ht:t≠[]) (h:decodeL t≠(65533,1)):Gz t=some (decodeL t):=by
 have hlen:0<t.length:=List.length_pos_iff.2 ht
 rw[decodeL_N] at h⊢
 have g0:=Te t 0
 have g1:=Te t 1
 have g2:=Te t 2
 have g3:=Te t 3
 have t1:t.take 1=[t.getD 0 0]:=by rw[Nk t 0 hlen];rfl
 obtain⟨B0,hB0⟩:∃B,t.getD 0 0=B:=⟨_,rfl⟩
 obtain⟨B1,hB1⟩:∃B,t.getD 1 0=B:=⟨_,rfl⟩
 obtain⟨B2,hB2⟩:∃B,t.getD 2 0=B:=⟨_,rfl⟩
 obtain⟨B3,hB3⟩:∃B,t.getD 3 0=B:=⟨_,rfl⟩
 have t2:1<t.length→t.take 2=[B0,B1]:=fun hh=>by rw[Nk t 1 hh,t1,hB0,hB1];rfl
 have t3:2<t.length→t.take 3=[B0,B1,B2]:=fun hh=>by rw[Nk t 2 hh,t2 (by omega),hB2];rfl
 have t4:3<t.length→t.take 4=[B0,B1,B2,B3]:=fun hh=>by rw[Nk t 3 hh,t3 (by omega),hB3];rfl
 rw[hB0] at t1
 unfold Gz
 rw[hB0,hB1,hB2,hB3] at h
 rw[hB0,hB1,hB2,hB3]
 rw[hB0] at g0
 rw[hB1] at g1
 rw[hB2] at g2
 rw[hB3] at g3
 by_cases c0:B0.toNat<128
 ·have hl:E8 B0.toNat=some (0,B0.toNat):=by
   unfold E8;rw[if_neg (by omega),if_neg (by omega),if_neg (by omega),if_neg (by omega)]
  rw[hl]
  have hd:decodeN t.length B0.toNat B1.toNat B2.toNat B3.toNat=(B0.toNat,1):=by unfold decodeN;rw[if_pos c0]
  rw[hd]
  have ho:Du B0.toNat=t.take 1:=by
   rw[t1];unfold Du;rw[if_pos (by rw[C3];omega)];unfold enc L8;rw[if_pos c0];simp
  simp only[Eo]
  rw[if_neg (by omega),if_pos ho]
 ·by_cases c1:B0.toNat/32=6∧(1<t.length∧B1.toNat/64=2)
  ·by_cases cc:B0.toNat%32*64+B1.toNat%64≥128
   ·have hd:decodeN t.length B0.toNat B1.toNat B2.toNat B3.toNat=(B0.toNat%32*64+B1.toNat%64,2):=by
     unfold decodeN;rw[if_neg c0,if_pos c1,if_pos cc]
    rw[hd]
    have hl:E8 B0.toNat=some (1,B0.toNat-192):=by
     unfold E8;rw[if_neg (by omega),if_neg (by omega),if_pos (by omega)]
    rw[hl]
    have hx:(B0.toNat-192)*64+B1.toNat-128=B0.toNat%32*64+B1.toNat%64:=by omega
    have ho:Du (B0.toNat%32*64+B1.toNat%64)=t.take 2:=by
     rw[t2 c1.2.1];unfold Du;rw[if_pos (by rw[C3];omega)];unfold enc L8
     rw[if_neg (by omega),if_pos (by omega)]
     simp only[List.map_cons,List.map_nil]
     rw[G0 B0 _ (by omega),G0 B1 _ (by omega)]
    simp only[Eo,hB1]
    rw[if_neg (by omega),if_neg (by omega),hx]
    simp only[]
    rw[if_pos ho]
   ·exfalso;apply h;unfold decodeN;rw[if_neg c0,if_pos c1,if_neg cc]
  ·by_cases c2:B0.toNat/16=14∧(1<t.length∧B1.toNat/64=2)∧(2<t.length∧B2.toNat/64=2)
   ·by_cases cc:B0.toNat%16*4096+B1.toNat%64*64+B2.toNat%64≥2048∧(B0.toNat%16*4096+B1.toNat%64*64+B2.toNat%64<55296∨(57344≤B0.toNat%16*4096+B1.toNat%64*64+B2.toNat%64∧B0.toNat%16*4096+B1.toNat%64*64+B2.toNat%64≤1114111))
    ·have hd:decodeN t.length B0.toNat B1.toNat B2.toNat B3.toNat=(B0.toNat%16*4096+B1.toNat%64*64+B2.toNat%64,3):=by
      unfold decodeN;rw[if_neg c0,if_neg c1,if_pos c2,if_pos cc]
     rw[hd]
     have hl:E8 B0.toNat=some (2,B0.toNat-224):=by
      unfold E8;rw[if_neg (by omega),if_pos (by omega)]
     rw[hl]
     have hx:((B0.toNat-224)*64+B1.toNat-128)*64+B2.toNat-128=B0.toNat%16*4096+B1.toNat%64*64+B2.toNat%64:=by omega
     have ho:Du (B0.toNat%16*4096+B1.toNat%64*64+B2.toNat%64)=t.take 3:=by
      rw[t3 c2.2.2.1];unfold Du;rw[if_pos (by rw[C3];omega)];unfold enc L8
      rw[if_neg (by omega),if_neg (by omega),if_pos (by omega)]
      simp only[List.map_cons,List.map_nil]
      rw[G0 B0 _ (by omega),G0 B1 _ (by omega),G0 B2 _ (by omega)]
     simp only[Eo,hB1,hB2]
     rw[if_neg (by omega),if_neg (by omega),if_neg (by omega),hx]
     simp only[]
     rw[if_pos ho]
    ·exfalso;apply h;unfold decodeN;rw[if_neg c0,if_neg c1,if_pos c2,if_neg cc]
   ·by_cases c3:B0.toNat/8=30∧(1<t.length∧B1.toNat/64=2)∧(2<t.length∧B2.toNat/64=2)∧(3<t.length∧B3.toNat/64=2)
    ·by_cases cc:B0.toNat%8*262144+B1.toNat%64*4096+B2.toNat%64*64+B3.toNat%64≥65536∧(B0.toNat%8*262144+B1.toNat%64*4096+B2.toNat%64*64+B3.toNat%64<55296∨(57344≤B0.toNat%8*262144+B1.toNat%64*4096+B2.toNat%64*64+B3.toNat%64∧B0.toNat%8*262144+B1.toNat%64*4096+B2.toNat%64*64+B3.toNat%64≤1114111))
     ·have hd:decodeN t.length B0.toNat B1.toNat B2.toNat B3.toNat=(B0.toNat%8*262144+B1.toNat%64*4096+B2.toNat%64*64+B3.toNat%64,4):=by
       unfold decodeN;rw[if_neg c0,if_neg c1,if_neg c2,if_pos c3,if_pos cc]
      rw[hd]
      have hl:E8 B0.toNat=some (3,B0.toNat-240):=by
       unfold E8;rw[if_pos (by omega)]
      rw[hl]
      have hx:(((B0.toNat-240)*64+B1.toNat-128)*64+B2.toNat-128)*64+B3.toNat-128=B0.toNat%8*262144+B1.toNat%64*4096+B2.toNat%64*64+B3.toNat%64:=by omega
      have ho:Du (B0.toNat%8*262144+B1.toNat%64*4096+B2.toNat%64*64+B3.toNat%64)=t.take 4:=by
       rw[t4 c3.2.2.2.1];unfold Du;rw[if_pos (by rw[C3];omega)];unfold enc L8
       rw[if_neg (by omega),if_neg (by omega),if_neg (by omega)]
       simp only[List.map_cons,List.map_nil]
       rw[G0 B0 _ (by omega),G0 B1 _ (by omega),G0 B2 _ (by omega),G0 B3 _ (by omega)]
      simp only[Eo,hB1,hB2,hB3]
      rw[if_neg (by omega),if_neg (by omega),if_neg (by omega),if_neg (by omega),hx]
      simp only[]
      rw[if_pos ho]
     ·exfalso;apply h;unfold decodeN;rw[if_neg c0,if_neg c1,if_neg c2,if_pos c3,if_neg cc]
    ·exfalso;apply h;unfold decodeN;rw[if_neg c0,if_neg c1,if_neg c2,if_neg c3]
theorem vT (t:List UInt8) (ht:t≠[]):Gz t=if decodeL t=(65533,1) then none else some (decodeL t):=by
 split
 ·rename_i h
  cases hs:Gz t with
  |none=>rfl
  |some p=>
   obtain⟨x,k⟩:=p
   obtain⟨h1,h2,h3⟩:=Oz ht hs
   rw[h2,L9 x h1] at h
   simp only[Prod.mk.injEq] at h
   obtain⟨rfl,h4⟩:=h
   have:(enc 65533).length=3:=by decide
   omega
 ·rename_i h
  exact Pz ht h
def cO:Nat→List UInt8→List Nat
 |0,_=>[]
 |n+1,l=>if l=[] then [] else(decodeL l).1::cO n (l.drop (decodeL l).2)
def rns (l:List UInt8):List Nat:=cO l.length l
theorem Ma (l:List UInt8) (h:l≠[]):1≤(decodeL l).2:=by
 have:0<l.length:=List.length_pos_iff.2 h
 unfold decodeL
 exact decode_width_pos ⟨l.toArray⟩ 0 (by simpa[ByteArray.size] using this)
theorem qZ:∀(n m:Nat) (l:List UInt8),l.length≤n→l.length≤m→cO n l=cO m l:=by
 intro n
 induction n with
 |zero=>intro m l h _;have:l=[]:=List.eq_nil_of_length_eq_zero (by omega);subst this;cases m<;>simp[cO]
 |succ n ih=>
  intro m l h1 h2
  cases m with
  |zero=>have:l=[]:=List.eq_nil_of_length_eq_zero (by omega);subst this;simp[cO]
  |succ m=>
   simp only[cO]
   split
   ·rfl
   ·rename_i hne
    have:=Ma l hne
    have hl:0<l.length:=List.length_pos_iff.2 hne
    rw[ih m (l.drop (decodeL l).2) (by rw[List.length_drop];omega) (by rw[List.length_drop];omega)]
theorem Zq:rns []=[]:=rfl
theorem cP (l:List UInt8) (h:l≠[]):rns l=(decodeL l).1::rns (l.drop (decodeL l).2):=by
 have hl:0<l.length:=List.length_pos_iff.2 h
 have:=Ma l h
 unfold rns
 obtain⟨n,hn⟩:∃n,l.length=n+1:=⟨l.length-1,by omega⟩
 rw[hn,cO,if_neg h]
 rw[qZ n (l.drop (decodeL l).2).length (l.drop (decodeL l).2) (by rw[List.length_drop];omega) (Nat.le_refl _)]
theorem iN (l:List UInt8) (h:l≠[]) (hv:validD l=true):
 E7 (decodeL l).1=true∧l=enc (decodeL l).1++l.drop (decodeL l).2∧(decodeL l).2=(enc (decodeL l).1).length∧validD (l.drop (decodeL l).2)=true∧decodeL l≠(65533,1):=by
 rw[validD_step l h] at hv
 have hne:decodeL l≠(65533,1):=by
  intro e;rw[e] at hv;simp at hv
 have hs:=Pz h hne
 obtain⟨a,b,c⟩:=Oz (x:=(decodeL l).1) (k:=(decodeL l).2) h hs
 refine⟨a,b,c,?_,hne⟩
 rw[if_neg (by intro e;exact hne (Prod.ext e.1 e.2))] at hv
 exact hv
theorem rA (l:List UInt8) (h:l≠[]) (he:Gz l=none):validD l=false:=by
 rw[vT l h] at he
 split at he
 ·rename_i hd
  rw[validD_step l h,hd];simp
 ·cases he
theorem X1 (x:Nat) (hx:E7 x=true) (t:List UInt8):validD (enc x++t)=validD t∧rns (enc x++t)=x::rns t:=by
 have hl:=(Gf x).1
 have hne:enc x++t≠[]:=by
  intro e;have:=congrArg List.length e;rw[List.length_append] at this;simp at this;rw[this.1] at hl;simp at hl
 have hd:=L9 x hx t
 constructor
 ·rw[validD_step _ hne,hd,if_neg]
  ·simp
  ·rintro⟨h1,h2⟩
   simp only at h1 h2
   subst h1
   revert h2;decide
 ·rw[cP _ hne,hd];simp
theorem iO (xs:List Nat) (h:∀x∈xs,E7 x=true):validD (xs.flatMap enc)=true∧rns (xs.flatMap enc)=xs:=by
 induction xs with
 |nil=>exact⟨rfl,rfl⟩
 |cons x xs ih=>
  obtain⟨a,b⟩:=ih fun y hy=>h y (List.mem_cons_of_mem _ hy)
  obtain⟨c,d⟩:=X1 x (h x List.mem_cons_self) (xs.flatMap enc)
  rw[List.flatMap_cons,c,d,a,b]
  exact⟨rfl,rfl⟩
theorem X2:∀(n:Nat) (l:List UInt8),l.length≤n→validD l=true→(∀x∈rns l,E7 x=true)∧(rns l).flatMap enc=l:=by
 intro n
 induction n with
 |zero=>intro l h _;have:l=[]:=List.eq_nil_of_length_eq_zero (by omega);subst this;simp[Zq]
 |succ n ih=>
  intro l h hv
  by_cases hl:l=[]
  ·subst hl;simp[Zq]
  ·obtain⟨a,b,c,d,_⟩:=iN l hl hv
   have hp:=Ma l hl
   have hll:0<l.length:=List.length_pos_iff.2 hl
   obtain⟨e,f⟩:=ih (l.drop (decodeL l).2) (by rw[List.length_drop];omega) d
   rw[cP l hl]
   refine⟨?_,?_⟩
   ·intro x hx
    rcases List.mem_cons.1 hx with rfl|hx
    ·exact a
    ·exact e x hx
   ·rw[List.flatMap_cons,f]
    exact b.symm
theorem Km (l:List UInt8) (hv:validD l=true):∀x∈rns l,E7 x=true:=(X2 _ l (Nat.le_refl _) hv).1
theorem Iz (l:List UInt8) (hv:validD l=true):(rns l).flatMap enc=l:=(X2 _ l (Nat.le_refl _) hv).2
theorem Zh {p:Prop} (h:p):Go.RowKit.Hid p:=h
theorem Am {α:Type _} {l:List α} {i:Nat} (h:i<l.length):l[i]?=some l[i]:=List.getElem?_eq_getElem h
theorem Aw {α:Type _} {i:Nat} {a:α} {l:List α}:l[i]?=some a↔∃h:i<l.length,l[i]=a:=List.getElem?_eq_some_iff
theorem At (a b:Bool):((a&&b)=true)=(a=true∧b=true):=Bool.and_eq_true a b
theorem Ag {α:Type _} {a:α} {as:List α}:(a::as).length=as.length+1:=List.length_cons
theorem Ap {α:Type _} {as bs:List α}:(as++bs).length=as.length+bs.length:=List.length_append
theorem Al {α:Type _} {i:Nat} {l:List α}:(l.take i).length=min i l.length:=List.length_take
theorem Az {α:Type _} {i:Nat} {l:List α}:(l.drop i).length=l.length-i:=List.length_drop
theorem A8 {α:Type _} {l:List α} {i:Nat} {a:α} (h:l[i]?=some a):a∈l:=List.mem_of_getElem? h
end Go.Proofs.YtokmjjkbginodaaGreatDoor
