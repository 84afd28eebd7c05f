/- MU: the texts Awk13, one behind the other. No condition but what each lemma says. -/
import Derived.Test.YtngbfblmejjipaaGreatDoorMT
import Derived.Test.YtngbfblmejjipaaGreatDoorME
import Derived.Test.YtngbfblmejjipaaGreatDoorMR
set_option maxRecDepth 100000
set_option maxHeartbeats 16000000
namespace Go.Proofs.YtngbfblmejjipaaGreatDoor
open Go.RowKit
theorem mR {g:Gn} {b:List UInt8} (hw:gnW g=true) (hl:(gnE g).length≤400000) (he:gnE g=b):Ab Tryz.prog 14 [gnA g] (fun r=>r= .tup [Cd 0 5 b,iv 0]):=by
 have h:=Z1 g (jT hw hl)
 rw[hw,he] at h
 exact h
theorem Kj {g:Gn} {n:Nat} {k:Bool} {c b:List UInt8} (h1:Gk g=some c) (h2:g.k=n) (h3:Cc n=k) (h4:c.length<128) (h5:UInt8.ofNat (idN 2 k n)::UInt8.ofNat c.length::c=b):gnE g=b:=by
 unfold gnE
 rw[h1,h2,h3,show(some c).getD []=c from rfl,Int.toNat_natCast,Eu _ _ _ _ h4];exact h5
def nU:Gn:=⟨2,[],[97,46,98],[],[],0,[],0,[]⟩
def gIp:Gn:=⟨7,[],[],[127,0,0,1],[],0,[],0,[]⟩
def Sv:Gn:=⟨4,[],[],[],[[⟨[50,46,53,46,52,46,51],[12,2,65,98]⟩]],0,[],0,[]⟩
theorem mS:Ab Tryz.prog 14 [gnA nU] (fun r=>r= .tup [Cd 0 5 [130,3,97,46,98],iv 0]):=by
 have he:gnE nU=[130,3,97,46,98]:=Kj (n:=2) (k:=false) (c:=[97,46,98]) (by decide+kernel) rfl rfl (by decide) (by decide)
 exact mR (by decide+kernel) (by rw[he];decide) he
theorem nV:Ab Tryz.prog 14 [gnA gIp] (fun r=>r= .tup [Cd 0 5 [135,4,127,0,0,1],iv 0]):=by
 have he:gnE gIp=[135,4,127,0,0,1]:=Kj (n:=7) (k:=false) (c:=[127,0,0,1]) (by decide+kernel) rfl rfl (by decide) (by decide)
 exact mR (by decide+kernel) (by rw[he];decide) he
theorem mT:Ab Tryz.prog 14 [gnA Sv] (fun r=>r= .tup [Cd 0 5 [164,15,48,13,49,11,48,9,6,3,85,4,3,12,2,65,98],iv 0]):=by
 have e1:atE ⟨[50,46,53,46,52,46,51],[12,2,65,98]⟩=[48,9,6,3,85,4,3,12,2,65,98]:=by
  unfold atE
  rw[show Bj [50,46,53,46,52,46,51]=[85,4,3] by decide+kernel,Eu 0 6 false _ (by decide),Eu 0 16 true _ (by decide)];decide
 have e2:Cr [⟨[50,46,53,46,52,46,51],[12,2,65,98]⟩]=[49,11,48,9,6,3,85,4,3,12,2,65,98]:=by
  unfold Cr
  rw[List.map_cons,List.map_nil,e1,Eu 0 17 true _ (by decide)];decide
 have e3:nmE Sv.nm=[48,13,49,11,48,9,6,3,85,4,3,12,2,65,98]:=by
  show nmE [[⟨[50,46,53,46,52,46,51],[12,2,65,98]⟩]]=_
  unfold nmE
  rw[List.map_cons,List.map_nil,e2,Eu 0 16 true _ (by decide)];decide
 have ha:atV ⟨[50,46,53,46,52,46,51],[12,2,65,98]⟩=true:=by decide+kernel
 have hr:Gt [⟨[50,46,53,46,52,46,51],[12,2,65,98]⟩]=true:=by
  unfold Gt
  rw[List.all_cons,ha,List.map_cons,List.map_nil,e1];decide+kernel
 have hn:nmV Sv.nm=true:=by
  show nmV [[⟨[50,46,53,46,52,46,51],[12,2,65,98]⟩]]=true
  unfold nmV
  rw[List.all_cons,hr];rfl
 have hc:Gk Sv=some [48,13,49,11,48,9,6,3,85,4,3,12,2,65,98]:=by
  show(if nmV Sv.nm=true then some (nmE Sv.nm) else none)=_
  rw[if_pos hn,e3]
 have he:gnE Sv=[164,15,48,13,49,11,48,9,6,3,85,4,3,12,2,65,98]:=Kj (n:=4) (k:=true) hc rfl rfl (by decide) (by decide)
 have hw:gnW Sv=true:=(Lj _).2 ⟨by decide+kernel,by decide+kernel,⟨_,hc⟩,by decide+kernel⟩
 exact mR hw (by rw[he];decide) he
theorem jX:Ab Tryz.prog 12 [] (fun r=>r=bv true):=by
 have m1:=mS
 have m2:=nV
 have m3:=mT
 have b1:=G9 false false [130,3,97,46,98] [130,3,97,46,98] (by decide) (by decide)
 have b2:=G9 false false [135,4,127,0,0,1] [135,4,127,0,0,1] (by decide) (by decide)
 have b3:=G9 false false [164,15,48,13,49,11,48,9,6,3,85,4,3,12,2,65,98] [164,15,48,13,49,11,48,9,6,3,85,4,3,12,2,65,98] (by decide) (by decide)
 rw[beq_self_eq_true] at b1 b2 b3
 refine acQ 52 Tryz.func12 rfl rfl fun _ _ _=> ?_
 (repeat'((conv=>whnf);first|refine NBr.yes ?_|refine NCall.le m1 Nq ?_|refine NCall.le m2 Nq ?_|refine NCall.le m3 Nq ?_|refine NCall.le b1 Nq ?_|refine NCall.le b2 Nq ?_|refine NCall.le b3 Nq ?_));(all_goals(conv=>whnf))
 all_goals exact NEnd.eq leQ
end Go.Proofs.YtngbfblmejjipaaGreatDoor
