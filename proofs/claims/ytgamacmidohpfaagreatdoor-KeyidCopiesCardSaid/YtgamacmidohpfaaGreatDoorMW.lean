/- MW: the texts SbP SbM SbL SbRp SbW LawSM, one behind the other. No condition but what each lemma says. -/
import Derived.Test.YtgamacmidohpfaaGreatDoorMT
set_option maxRecDepth 100000
set_option maxHeartbeats 16000000
namespace Go.Proofs.YtgamacmidohpfaaGreatDoor
open Go.RowKit
def trE (g:Gn):List UInt8:=Ai 0 16 true (gnE g)
def ER (l:List Gn):List UInt8:=(l.map trE).flatten
theorem gJ {b:List UInt8} {a en:Nat} (h1:a≤en):b.take en=b.take a++(b.drop a).take (en-a):=by
 obtain⟨k,rfl⟩:∃k,en=a+k:=⟨en-a,by omega⟩
 rw[List.take_add,Nat.add_sub_cancel_left]
theorem oG {b:List UInt8} {a en:Nat} (h1:a≤en) (h2:en≤b.length) {ts:List Tv} (ht:∀t∈ts,t.ok) (h:(b.drop a).take (en-a)=C0 ts):Cp b a en=⟨els a ts,0,0⟩∧(els a ts).map (elO b)=ts.map Tv.enc:=by
 have hp:(b.take a).length=a:=by rw[Am];omega
 have hs:b.take en=b.take a++C0 ts:=by rw[←h];exact gJ h1
 have e1:=M1 ts b (b.take a) en ht hs h2
 have e2:=R1 ts b (b.take a) en hs h2
 rw[hp] at e1 e2
 exact⟨e1,e2⟩
theorem Uy {c n:Nat} (ts:List Tv) (hc:c≤3) (hn:n≤30) (ht:∀t∈ts,t.ok) (hl:(C0 ts).length≤2147483647):∃h:Nat,Bd (Ai c n true (C0 ts)) c n=⟨els h ts,0,0⟩∧(els h ts).map (elO (Ai c n true (C0 ts)))=ts.map Tv.enc∧(Ai c n true (C0 ts)).drop h=C0 ts∧(Ai c n true (C0 ts)).length=h+(C0 ts).length:=by
 obtain⟨t,e⟩:∃t:Tv,t=⟨c,n,true,C0 ts⟩:=⟨_,rfl⟩
 have hOk:t.ok:=by subst e;exact⟨hc,hn,hl⟩
 have he:Ai c n true (C0 ts)=t.enc:=by subst e;rfl
 have hv:t.v=C0 ts:=by subst e;rfl
 have hi:(t.el 0).isB c n true=true:=by subst e;simp[El.isB,Tv.el]
 have hlen:=t.len
 have hb:=t.body
 rw[he]
 have hp:Bd t.enc c n=Cp t.enc t.hd t.enc.length:=by
  unfold Bd
  rw[Hf hOk,if_neg (by simp)]
  simp only[hi]
  rw[if_neg (by simp)]
  show Cp t.enc (0+t.hd) (0+t.enc.length)=_
  rw[Nat.zero_add,Nat.zero_add]
 obtain⟨e1,e2⟩:=oG (b:=t.enc) (a:=t.hd) (en:=t.enc.length) (by omega) (Nat.le_refl _) ht (by rw[hb,hv];exact List.take_of_length_le (by rw[←hv];omega))
 exact⟨t.hd,by rw[hp,e1],e2,by rw[hb,hv],by rw[hlen,hv]⟩
theorem Kx {t:Tv} {ts:List Tv} {b:List UInt8} {a:Nat} (h:(els a (t::ts)).map (elO b)=(t::ts).map Tv.enc) (hin:∀x∈els a (t::ts),x.stop≤b.length):els a (t::ts)=t.el a::els (a+t.enc.length) ts∧bod b (t.el a)=t.v∧(t.el a).body≤(t.el a).stop∧(t.el a).stop≤b.length∧(els (a+t.enc.length) ts).map (elO b)=ts.map Tv.enc∧(∀x∈els (a+t.enc.length) ts,x.stop≤b.length):=by
 have e:els a (t::ts)=t.el a::els (a+t.enc.length) ts:=rfl
 rw[e] at h hin
 rw[List.map_cons,List.map_cons,List.cons.injEq] at h
 have hl:=t.len
 have hs:=hin (t.el a) (by simp)
 refine⟨e,?_,by show a+t.hd≤a+t.enc.length;omega,hs,h.2,fun x hx=>hin x (by simp[hx])⟩
 have h1:(b.drop a).take (a+t.enc.length-a)=t.enc:=h.1
 have h2:=congrArg (List.drop t.hd) h1
 rw[List.drop_take,t.body,List.drop_drop] at h2
 show(b.drop (a+t.hd)).take (a+t.enc.length-(a+t.hd))=_
 rw[←h2];congr 1;omega
structure sbM (P E:List Gn):Prop where
 p:P.length≤1000000
 q:E.length≤1000000
 m:∀g∈P,g.mid
 n:∀g∈E,g.mid
 e:(ER P).length≤400000000
 f:(ER E).length≤400000000
theorem AI {l:List Gn} (h:l≠[]):Kc l=l.all gnW:=by
 unfold Kc
 cases l with
 |nil=>exact absurd rfl h
 |cons a r=>rfl
theorem AJ {l:List Gn} (h:l≠[]):0<l.length:=List.length_pos_iff.2 h
structure trsZ (l:List Gn):Prop where
 z:gnsZ l
 e:(ER l).length≤90000000
theorem ES {l:List Gn} (h:l≠[]):decide ((l.length:Int)>0)=true:=decide_eq_true (by have:=AJ h;omega)
theorem gK {α β:Type} (f:β→α→β) (z:β) {l:List α} {i:Nat} {x:α} (h:l[i]?=some x):(l.take (i+1)).foldl f z=f ((l.take i).foldl f z) x:=by
 obtain⟨hlt,he⟩:=A1.1 h
 rw[List.take_succ_eq_append_getElem hlt,he,List.foldl_append];rfl

end Go.Proofs.YtgamacmidohpfaaGreatDoor
