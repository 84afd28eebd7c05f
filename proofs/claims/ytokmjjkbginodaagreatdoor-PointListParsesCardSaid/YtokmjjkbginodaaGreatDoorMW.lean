/- MW: the texts SbP SbRp KyP, one behind the other. No condition but what each lemma says. -/
import Derived.Test.YtokmjjkbginodaaGreatDoorMT
set_option maxRecDepth 100000
set_option maxHeartbeats 16000000
namespace Go.Proofs.YtokmjjkbginodaaGreatDoor
open Go.RowKit
def trE (g:Gn):List UInt8:=Ah 0 16 true (gnE g)
def NR (l:List Gn):List UInt8:=(l.map trE).flatten
theorem mB {b:List UInt8} {a en:Nat} (h1:a≤en):b.take en=b.take a++(b.drop a).take (en-a):=by
 obtain⟨k,rfl⟩:∃k,en=a+k:=⟨en-a,by omega⟩
 rw[List.take_add,Nat.add_sub_cancel_left]
theorem uS {b:List UInt8} {a en:Nat} (h1:a≤en) (h2:en≤b.length) {ts:List Tv} (ht:∀t∈ts,t.ok) (h:(b.drop a).take (en-a)=C6 ts):Cv b a en=⟨els a ts,0,0⟩∧(els a ts).map (elO b)=ts.map Tv.enc:=by
 have hp:(b.take a).length=a:=by rw[Al];omega
 have hs:b.take en=b.take a++C6 ts:=by rw[←h];exact mB h1
 have e1:=N4 ts b (b.take a) en ht hs h2
 have e2:=Ty ts b (b.take a) en hs h2
 rw[hp] at e1 e2
 exact⟨e1,e2⟩
theorem W2 {c n:Nat} (ts:List Tv) (hc:c≤3) (hn:n≤30) (ht:∀t∈ts,t.ok) (hl:(C6 ts).length≤2147483647):∃h:Nat,A6 (Ah c n true (C6 ts)) c n=⟨els h ts,0,0⟩∧(els h ts).map (elO (Ah c n true (C6 ts)))=ts.map Tv.enc∧(Ah c n true (C6 ts)).drop h=C6 ts∧(Ah c n true (C6 ts)).length=h+(C6 ts).length:=by
 obtain⟨t,e⟩:∃t:Tv,t=⟨c,n,true,C6 ts⟩:=⟨_,rfl⟩
 have hOk:t.ok:=by subst e;exact⟨hc,hn,hl⟩
 have he:Ah c n true (C6 ts)=t.enc:=by subst e;rfl
 have hv:t.v=C6 ts:=by subst e;rfl
 have hi:(t.el 0).isB c n true=true:=by subst e;simp[El.isB,Tv.el]
 have hlen:=t.len
 have hb:=t.body
 rw[he]
 have hp:A6 t.enc c n=Cv t.enc t.hd t.enc.length:=by
  unfold A6
  rw[H8 hOk,if_neg (by simp)]
  simp only[hi]
  rw[if_neg (by simp)]
  show Cv t.enc (0+t.hd) (0+t.enc.length)=_
  rw[Nat.zero_add,Nat.zero_add]
 obtain⟨e1,e2⟩:=uS (b:=t.enc) (a:=t.hd) (en:=t.enc.length) (by omega) (Nat.le_refl _) ht (by rw[hb,hv];exact List.take_of_length_le (by rw[←hv];omega))
 exact⟨t.hd,by rw[hp,e1],e2,by rw[hb,hv],by rw[hlen,hv]⟩
theorem pW {t:Tv} {ts:List Tv} {b:List UInt8} {a:Nat} (h:(els a (t::ts)).map (elO b)=(t::ts).map Tv.enc) (hin:∀x∈els a (t::ts),x.stop≤b.length):els a (t::ts)=t.el a::els (a+t.enc.length) ts∧bod b (t.el a)=t.v∧(t.el a).body≤(t.el a).stop∧(t.el a).stop≤b.length∧(els (a+t.enc.length) ts).map (elO b)=ts.map Tv.enc∧(∀x∈els (a+t.enc.length) ts,x.stop≤b.length):=by
 have e:els a (t::ts)=t.el a::els (a+t.enc.length) ts:=rfl
 rw[e] at h hin
 rw[List.map_cons,List.map_cons,List.cons.injEq] at h
 have hl:=t.len
 have hs:=hin (t.el a) (by simp)
 refine⟨e,?_,by show a+t.hd≤a+t.enc.length;omega,hs,h.2,fun x hx=>hin x (by simp[hx])⟩
 have h1:(b.drop a).take (a+t.enc.length-a)=t.enc:=h.1
 have h2:=congrArg (List.drop t.hd) h1
 rw[List.drop_take,t.body,List.drop_drop] at h2
 show(b.drop (a+t.hd)).take (a+t.enc.length-(a+t.hd))=_
 rw[←h2];congr 1;omega
structure sbM (P E:List Gn):Prop where
 p:P.length≤1000000
 q:E.length≤1000000
 m:∀g∈P,g.mid
 n:∀g∈E,g.mid
 e:(NR P).length≤400000000
 f:(NR E).length≤400000000
structure trsZ (l:List Gn):Prop where
 z:gnsZ l
 e:(NR l).length≤90000000
def Bm (l:List Gn):List UInt8:=(l.map gnE).flatten
def pT {α:Type} (n:Nat) (R:α→Prop) (q:Option α×Nat×Nat):Prop:=(∃v,R v∧q=(some v,0,0))∨(∃c o:Nat,c≠0∧o≤n∧q=(none,c,o))
theorem gZ {c n:Nat} {k:Bool} {l m:List UInt8} (hc:c≤3) (hn:n≤30) (hl:l.length≤2147483647) (hm:m.length≤2147483647) (e:Ah c n k l=Ah c n k m):l=m:=by
 have:=Tv.inj (t:=⟨c,n,k,l⟩) (u:=⟨c,n,k,m⟩) ⟨hc,hn,hl⟩ ⟨hc,hn,hm⟩ (r:=[]) (s:=[]) (by rw[List.append_nil,List.append_nil];exact e)
 exact congrArg Tv.v this.1
structure Kd.mid (k:Kd):Prop where
 d:k.id.length≤50000000
 s:k.ser.length≤50000000
 i:gnsM k.iss
end Go.Proofs.YtokmjjkbginodaaGreatDoor
