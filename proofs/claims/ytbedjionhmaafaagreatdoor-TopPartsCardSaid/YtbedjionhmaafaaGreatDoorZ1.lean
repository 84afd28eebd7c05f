/- Z1: the texts TopLift, one behind the other. No condition but what each lemma says. -/
import Derived.Test.YtbedjionhmaafaaGreatDoorCards
import Derived.Test.YtbedjionhmaafaaGreatDoorTie
import Derived.Test.YtbedjionhmaafaaGreatDoorQO
set_option linter.all false
namespace Go.Proofs.YtbedjionhmaafaaGreatDoor
open Go.ChangeShapes Go.WideShapes Go.ChangeAt Go.RowKit Go.Joins
open Go.ChangeMaps (open_string shut_string)
set_option maxRecDepth 100000 in
set_option maxHeartbeats 1000000 in
theorem TD (os:Os) (b:os.Started) (H:Type) (enc:TypeId×Value→H):
 ReturnsInHanded {} Tryz.checked os 3 .any (fun w args=>(Rows.topPartsSpec.pre enc Tryz.prog Tryz.f3 [] false w args∧laidMetH Tryz.prog Rv w)∧sizedMet enc Tryz.prog Tryz.f3 (OpenSpec.ofChange Rows.topPartsSpec) false w args)
  (Rows.topPartsSpec.post enc Tryz.prog Tryz.f3 false true false false):=by
 refine uE (C:=Tryz.checked) (X:=fun w _=>laidMetH Tryz.prog Rv w) (fun _ _ _ y h=>h.of_heap y) own b Ac Tryz.func3
  (ChangeSpec.witness_shaped (enc:=enc) (C:=Tryz.checked) (os:=os) (X:=fun w _=>laidMetH Tryz.prog Rv w) false (World.laidAll Tryz.prog os Rv) #[.slice none 0 0] 8 rfl (World.shaped_of_ZipB Ac Ac) Ac Ac Ac (MK os _)) ?_
 intro W f args ds L i a o k B
 have c:∀(j:Nat) t v,Tryz.f3.params[j]?=some t→args[j]?=some v→Value.okWide Tryz.prog W .any f t v:=a
 have d:=o
 obtain⟨p,q,g,u,rfl,A,K⟩:=o
 have n:DataW.TrodAll enc Tryz.prog W 0 (fun _=>true) true Tryz.f3.params.toList args.toList ds p:=g
 rw[Tryz.params3] at n c
 obtain⟨m,M,rfl,rfl,l⟩:=trodAll_one n
 obtain⟨rfl,rfl⟩:=trodVars_none u
 obtain⟨F,s,J⟩:=VQ MQ (EU Tryz.underlying22 (c 0 22 m rfl rfl)) l
 have I:=uF k B
 clear g a
 simp only[Am] at d
 refine((jh F s).2 W (yC W) (fun _ _=>False) [m] I (fun _ _ h=>h) (fun _ _ h=>h.elim) ⟨J,trivial⟩).mono ?_
 rintro e N ⟨r,v,rfl,rfl,bel,E⟩
 obtain rfl:=dv E
 refine⟨_,rfl,_,_,_,[],p,[],d,?_,?_,?_,bel.frame _,fun h=>by cases h⟩
 ·exact trodAll_mk1 (shut_bool Tryz.underlying4 true)
 ·exact trodAll_mk1 (VS (of_decide_eq_true Ac) Ac l bel (fun x z=>d.lt x z))
 ·rfl
end Go.Proofs.YtbedjionhmaafaaGreatDoor
