/- MW: the texts SbP SbRp KyP, one behind the other. No condition but what each lemma says. -/
import Derived.Test.YtaoahmplnckhpaaGreatDoorMT
set_option maxRecDepth 100000
set_option maxHeartbeats 16000000
namespace Go.Proofs.YtaoahmplnckhpaaGreatDoor
open Go.RowKit
def trE (g:Gn):List UInt8:=Ao 0 16 true (gnE g)
def CO (l:List Gn):List UInt8:=(l.map trE).flatten
theorem eG {b:List UInt8} {a en:Nat} (h1:a≤en):b.take en=b.take a++(b.drop a).take (en-a):=by
 obtain⟨k,rfl⟩:∃k,en=a+k:=⟨en-a,by omega⟩
 rw[List.take_add,Nat.add_sub_cancel_left]
theorem mW {b:List UInt8} {a en:Nat} (h1:a≤en) (h2:en≤b.length) {ts:List Tv} (ht:∀t∈ts,t.ok) (h:(b.drop a).take (en-a)=Dg ts):Ct b a en=⟨els a ts,0,0⟩∧(els a ts).map (elO b)=ts.map Tv.enc:=by
 have hp:(b.take a).length=a:=by rw[Al];omega
 have hs:b.take en=b.take a++Dg ts:=by rw[←h];exact eG h1
 have e1:=Lb ts b (b.take a) en ht hs h2
 have e2:=P5 ts b (b.take a) en hs h2
 rw[hp] at e1 e2
 exact⟨e1,e2⟩
theorem eH {c n:Nat} (ts:List Tv) (hc:c≤3) (hn:n≤30) (ht:∀t∈ts,t.ok) (hl:(Dg ts).length≤2147483647):∃h:Nat,A6 (Ao c n true (Dg ts)) c n=⟨els h ts,0,0⟩∧(els h ts).map (elO (Ao c n true (Dg ts)))=ts.map Tv.enc∧(Ao c n true (Dg ts)).drop h=Dg ts∧(Ao c n true (Dg ts)).length=h+(Dg ts).length:=by
 obtain⟨t,e⟩:∃t:Tv,t=⟨c,n,true,Dg ts⟩:=⟨_,rfl⟩
 have hOk:t.ok:=by subst e;exact⟨hc,hn,hl⟩
 have he:Ao c n true (Dg ts)=t.enc:=by subst e;rfl
 have hv:t.v=Dg ts:=by subst e;rfl
 have hi:(t.el 0).isB c n true=true:=by subst e;simp[El.isB,Tv.el]
 have hlen:=t.len
 have hb:=t.body
 rw[he]
 have hp:A6 t.enc c n=Ct t.enc t.hd t.enc.length:=by
  unfold A6
  rw[He hOk,if_neg (by simp)]
  simp only[hi]
  rw[if_neg (by simp)]
  show Ct t.enc (0+t.hd) (0+t.enc.length)=_
  rw[Nat.zero_add,Nat.zero_add]
 obtain⟨e1,e2⟩:=mW (b:=t.enc) (a:=t.hd) (en:=t.enc.length) (by omega) (Nat.le_refl _) ht (by rw[hb,hv];exact List.take_of_length_le (by rw[←hv];omega))
 exact⟨t.hd,by rw[hp,e1],e2,by rw[hb,hv],by rw[hlen,hv]⟩
theorem yH {t:Tv} {ts:List Tv} {b:List UInt8} {a:Nat} (h:(els a (t::ts)).map (elO b)=(t::ts).map Tv.enc) (hin:∀x∈els a (t::ts),x.stop≤b.length):els a (t::ts)=t.el a::els (a+t.enc.length) ts∧bod b (t.el a)=t.v∧(t.el a).body≤(t.el a).stop∧(t.el a).stop≤b.length∧(els (a+t.enc.length) ts).map (elO b)=ts.map Tv.enc∧(∀x∈els (a+t.enc.length) ts,x.stop≤b.length):=by
 have e:els a (t::ts)=t.el a::els (a+t.enc.length) ts:=rfl
 rw[e] at h hin
 rw[List.map_cons,List.map_cons,List.cons.injEq] at h
 have hl:=t.len
 have hs:=hin (t.el a) (by simp)
 refine⟨e,?_,by show a+t.hd≤a+t.enc.length;omega,hs,h.2,fun x hx=>hin x (by simp[hx])⟩
 have h1:(b.drop a).take (a+t.enc.length-a)=t.enc:=h.1
 have h2:=congrArg (List.drop t.hd) h1
 rw[List.drop_take,t.body,List.drop_drop] at h2
 show(b.drop (a+t.hd)).take (a+t.enc.length-(a+t.hd))=_
 rw[←h2];congr 1;omega
structure sbM (P E:List Gn):Prop where
 p:P.length≤1000000
 q:E.length≤1000000
 m:∀g∈P,g.mid
 n:∀g∈E,g.mid
 e:(CO P).length≤400000000
 f:(CO E).length≤400000000
structure trsZ (l:List Gn):Prop where
 z:gnsZ l
 e:(CO l).length≤90000000
def Di (l:List Gn):List UInt8:=(l.map gnE).flatten
structure Kd.mid (k:Kd):Prop where
 d:k.id.length≤50000000
 s:k.ser.length≤50000000
 i:gnsM k.iss
end Go.Proofs.YtaoahmplnckhpaaGreatDoor
