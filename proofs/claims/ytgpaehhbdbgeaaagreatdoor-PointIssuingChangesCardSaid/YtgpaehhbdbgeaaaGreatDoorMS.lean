/- MS: the texts R13V R13M R13R, one behind the other. No condition but what each lemma says. -/
import Derived.Test.YtgpaehhbdbgeaaaGreatDoorMR
import Derived.Test.YtgpaehhbdbgeaaaGreatDoorMP
set_option maxRecDepth 100000
set_option maxHeartbeats 16000000
namespace Go.Proofs.YtgpaehhbdbgeaaaGreatDoor
open Go.RowKit
theorem yZ {n:List (List Att)} (h:nmZ n):AR n:=⟨by have:=h.l;omega,fun r hr=>⟨by have:=(h.r r hr).l;omega,fun a ha=>⟨by have:=((h.r r hr).a a ha).v;omega⟩⟩⟩
structure Gn.zz (g:Gn):Prop where
 o:g.oid.length≤3000000
 t:g.tx.length≤3000000
 b:g.by'.length≤3000000
 n:nmZ g.nm
 a:g.av.length≤3000000
 p:g.pv.length≤3000000
theorem Gn.sm.z {g:Gn} (h:g.sm):g.zz:=⟨h.o,h.t,h.b,h.n,h.a,h.p⟩
theorem Gn.zz.s {g:Gn} (h:g.zz):g.sm:=⟨h.o,h.t,h.b,h.n,h.a,h.p⟩
theorem Gn.zz.q {g:Gn} (h:g.zz):g.eqs:=⟨by have:=h.b;omega,yZ h.n⟩
structure insOk (t:Tr):Prop where
 l:t.ks.length≤100000
 k:∀k∈t.ks,k.ok
 e:(Tr.encs t.ks).length≤800000000
structure Tr.gn (t:Tr):Prop where
 v:t.v.length≤30000
 k0:(t.kid 0).v.length≤30000
 i:insOk t
 i1:insOk (t.kid 1)
 nm:(t.kid 0).nm
 a:((t.kid 0).kid 0).v.length≤1000000
 p:((t.kid 1).kid 0).v.length≤1000000
end Go.Proofs.YtgpaehhbdbgeaaaGreatDoor
