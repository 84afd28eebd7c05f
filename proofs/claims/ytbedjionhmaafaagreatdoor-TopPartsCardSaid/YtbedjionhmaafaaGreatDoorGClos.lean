/- GClos: the texts Clos, one behind the other. No condition but what each lemma says. -/
import Derived.Test.YtbedjionhmaafaaGreatDoorGIdxRune
set_option linter.all false
namespace Go.Proofs.YtbedjionhmaafaaGreatDoor
open Go.RowKit
open Go.Lib (validD decodeL)
theorem Jw (b1 b2:Nat) (lo hi r:Int) (w:World) (h1:w.cell? ⟨b1,0,none⟩=some (.int .i32 lo)) (h2:w.cell? ⟨b2,0,none⟩=some (.int .i32 hi)):
 Calls Tryz.prog 431 #[.int .i32 r,.pointer (some ⟨b1,0,none⟩),.pointer (some ⟨b2,0,none⟩)] w fun e w'=>e= .returned (.bool (decide (lo≤r)&&decide (r≤hi)))∧w=w':=by
 by_cases c1:lo≤r
 ·have d1:decide (lo≤r)=true:=by simpa using c1
  go_enter Tryz.func431,Tryz.ntmps431
  go_wp2
  go_ret
  exact⟨by rw[d1];rfl,rfl⟩
 ·have d1:decide (lo≤r)=false:=by simpa using c1
  go_enter Tryz.func431,Tryz.ntmps431
  go_wp2
  go_ret
  exact⟨rfl,rfl⟩
theorem CV (x:Nat) (hx:x<2147483648) (w:World):
 Calls Tryz.prog 424 #[.int .i32 x] w fun e w'=>e= .returned (.bool (Hz 30 x))∧w=w':=by
 have hh:Hz 30 x=(Ly x&&decide (x<65536)):=by unfold Hz;simp
 rw[hh]
 obtain⟨A,hA⟩:∃A,Ly x=A:=⟨_,rfl⟩
 have HA:=Zh hA
 rw[hA];clear hA hh
 by_cases c:x<65536
 all_goals
  cases A
  all_goals
   have HV:=Zh ((Kf x).trans HA.out)
   go_enter Tryz.func424,Tryz.ntmps424
   go_wp2_with (go_at_call 423;refine(Tryz.utf8_ValidRune _ _).mono ?_;rintro e w1 ⟨rfl,rfl⟩;rw[HV.out])
   go_ret
   exact⟨by simp[c]<;>omega,rfl⟩
theorem CW (pb b1 b2:Nat) (x:Nat) (hx:x<2147483648) (w:World) (h0:w.cell? ⟨pb,0,none⟩=some (.func (.func 431) #[] #[.pointer (some ⟨b1,0,none⟩),.pointer (some ⟨b2,0,none⟩)]))
 (h1:w.cell? ⟨b1,0,none⟩=some (.int .i32 32)) (h2:w.cell? ⟨b2,0,none⟩=some (.int .i32 126)):
 Calls Tryz.prog 422 #[.int .i32 x,.pointer (some ⟨pb,0,none⟩)] w fun e w'=>e= .returned (.bool (Hz 20 x))∧w=w':=by
 obtain⟨A,hA⟩:∃A,Hz 20 x=A:=⟨_,rfl⟩
 have HA:=Zh hA
 rw[hA];clear hA
 rcases(by omega:(0≤x∧x<32)∨(32≤x∧x<127)∨(127≤x∧x<160)∨(160≤x∧x<256)∨(256≤x)) with⟨c,c'⟩|⟨c,c'⟩|⟨c,c'⟩|⟨c,c'⟩|c
 ·skip
  have d0:decide ((32:Int)≤(x:Int))=false:=by rw[Ar];omega
  have d1:decide ((x:Int)≤126)=true:=by rw[A2];omega
  have d2:decide ((160:Int)≤(x:Int))=false:=by rw[Ar];omega
  have d3:decide ((x:Int)≤255)=true:=by rw[A2];omega
  have hb:=Jw b1 b2 32 126 (x:Int) w h1 h2
  go_enter Tryz.func422,Tryz.ntmps422
  go_wp2_with (go_at_call 431;refine(Jw b1 b2 32 126 (x:Int) w h1 h2).mono ?_;rintro e w1 ⟨rfl,rfl⟩;rw[d0,d1])
  go_ret
  exact⟨by rw[←HA.out];unfold Hz;simp<;>omega,rfl⟩
 ·skip
  have d0:decide ((32:Int)≤(x:Int))=true:=by rw[A2];omega
  have d1:decide ((x:Int)≤126)=true:=by rw[A2];omega
  have d2:decide ((160:Int)≤(x:Int))=false:=by rw[Ar];omega
  have d3:decide ((x:Int)≤255)=true:=by rw[A2];omega
  have hb:=Jw b1 b2 32 126 (x:Int) w h1 h2
  go_enter Tryz.func422,Tryz.ntmps422
  go_wp2_with (go_at_call 431;refine(Jw b1 b2 32 126 (x:Int) w h1 h2).mono ?_;rintro e w1 ⟨rfl,rfl⟩;rw[d0,d1])
  go_ret
  exact⟨by rw[←HA.out];unfold Hz;simp<;>omega,rfl⟩
 ·skip
  have d0:decide ((32:Int)≤(x:Int))=true:=by rw[A2];omega
  have d1:decide ((x:Int)≤126)=false:=by rw[Ar];omega
  have d2:decide ((160:Int)≤(x:Int))=false:=by rw[Ar];omega
  have d3:decide ((x:Int)≤255)=true:=by rw[A2];omega
  have hb:=Jw b1 b2 32 126 (x:Int) w h1 h2
  go_enter Tryz.func422,Tryz.ntmps422
  go_wp2_with (go_at_call 431;refine(Jw b1 b2 32 126 (x:Int) w h1 h2).mono ?_;rintro e w1 ⟨rfl,rfl⟩;rw[d0,d1])
  go_ret
  exact⟨by rw[←HA.out];unfold Hz;simp<;>omega,rfl⟩
 ·skip
  have d0:decide ((32:Int)≤(x:Int))=true:=by rw[A2];omega
  have d1:decide ((x:Int)≤126)=false:=by rw[Ar];omega
  have d2:decide ((160:Int)≤(x:Int))=true:=by rw[A2];omega
  have d3:decide ((x:Int)≤255)=true:=by rw[A2];omega
  have hb:=Jw b1 b2 32 126 (x:Int) w h1 h2
  go_enter Tryz.func422,Tryz.ntmps422
  go_wp2_with (go_at_call 431;refine(Jw b1 b2 32 126 (x:Int) w h1 h2).mono ?_;rintro e w1 ⟨rfl,rfl⟩;rw[d0,d1])
  go_ret
  exact⟨by rw[←HA.out];unfold Hz;simp<;>omega,rfl⟩
 ·skip
  have d0:decide ((32:Int)≤(x:Int))=true:=by rw[A2];omega
  have d1:decide ((x:Int)≤126)=false:=by rw[Ar];omega
  have d2:decide ((160:Int)≤(x:Int))=true:=by rw[A2];omega
  have d3:decide ((x:Int)≤255)=false:=by rw[Ar];omega
  have hb:=Jw b1 b2 32 126 (x:Int) w h1 h2
  go_enter Tryz.func422,Tryz.ntmps422
  go_wp2_with (go_at_call 431;refine(Jw b1 b2 32 126 (x:Int) w h1 h2).mono ?_;rintro e w1 ⟨rfl,rfl⟩;rw[d0,d1])
  go_ret
  exact⟨by rw[←HA.out];unfold Hz;simp<;>omega,rfl⟩
theorem CX:(({data:=#[32,39,40,41,43,44,45,46,47,58,61,63]}:ByteArray).data.toList)=[32,39,40,41,43,44,45,46,47,58,61,63]:=rfl
theorem CY:∀x:Fin 128,decide (0≤Lib.indexByte [32,39,40,41,43,44,45,46,47,58,61,63] ((x.val:Int)).toNat.toUInt8)=oth.contains x.val:=by decide+kernel
theorem JC (x:Nat) (h:128≤x):oth.contains x=false:=by
 have:∀m∈oth,m<128:=Ae
 grind
theorem Vq (x:Nat) (hx:x<2147483648) (w:World):
 Calls Tryz.prog 420 #[.string {data:=#[32,39,40,41,43,44,45,46,47,58,61,63]},.int .i32 x] w fun e w'=>e= .returned (.bool (oth.contains x))∧Below w.heap.size w w':=by
 by_cases h:x<128
 ·refine(Tryz.strings_ContainsRune_ascii _ _ _ Aa Aa).mono ?_
  rintro e w' ⟨rfl,rfl⟩
  rw[CX]
  exact⟨by rw[←CY ⟨x,h⟩],Bq _ _⟩
 ·rw[JC x Aa]
  go_enter Tryz.func420,Tryz.ntmps420
  go_wp2_with (go_at_call 430;refine(JB x Aa hx _).mono ?_;rintro e w1 ⟨rfl,hb⟩)
  go_ret
  exact⟨rfl,hb⟩
theorem CZ (x:Nat) (hx:x<2147483648) (w:World):
 Calls Tryz.prog 419 #[.int .i32 x] w fun e w'=>e= .returned (.bool (Hz 19 x))∧Below w.heap.size w w':=by
 obtain⟨A,hA⟩:∃A,Hz 19 x=A:=⟨_,rfl⟩
 have HA:=Zh hA
 rw[hA];clear hA
 rcases(by omega:(0≤x∧x<48)∨(48≤x∧x<58)∨(58≤x∧x<65)∨(65≤x∧x<91)∨(91≤x∧x<97)∨(97≤x∧x<123)∨(123≤x)) with⟨c,c'⟩|⟨c,c'⟩|⟨c,c'⟩|⟨c,c'⟩|⟨c,c'⟩|⟨c,c'⟩|c
 ·skip
  have d0:decide ((97:Int)≤(x:Int))=false:=by rw[Ar];omega
  have d1:decide ((x:Int)≤122)=true:=by rw[A2];omega
  have d2:decide ((65:Int)≤(x:Int))=false:=by rw[Ar];omega
  have d3:decide ((x:Int)≤90)=true:=by rw[A2];omega
  have d4:decide ((48:Int)≤(x:Int))=false:=by rw[Ar];omega
  have d5:decide ((x:Int)≤57)=true:=by rw[A2];omega
  go_enter Tryz.func419,Tryz.ntmps419
  go_wp2_with (go_at_call 420;refine(Vq x hx _).mono ?_;rintro e w1 ⟨rfl,hb⟩)
  go_ret
  exact⟨by rw[←HA.out];unfold Hz prn;simp<;>omega,hb⟩
 ·skip
  have d0:decide ((97:Int)≤(x:Int))=false:=by rw[Ar];omega
  have d1:decide ((x:Int)≤122)=true:=by rw[A2];omega
  have d2:decide ((65:Int)≤(x:Int))=false:=by rw[Ar];omega
  have d3:decide ((x:Int)≤90)=true:=by rw[A2];omega
  have d4:decide ((48:Int)≤(x:Int))=true:=by rw[A2];omega
  have d5:decide ((x:Int)≤57)=true:=by rw[A2];omega
  go_enter Tryz.func419,Tryz.ntmps419
  go_wp2
  go_ret
  exact⟨by rw[←HA.out];unfold Hz prn;simp<;>omega,Bq _ _⟩
 ·skip
  have d0:decide ((97:Int)≤(x:Int))=false:=by rw[Ar];omega
  have d1:decide ((x:Int)≤122)=true:=by rw[A2];omega
  have d2:decide ((65:Int)≤(x:Int))=false:=by rw[Ar];omega
  have d3:decide ((x:Int)≤90)=true:=by rw[A2];omega
  have d4:decide ((48:Int)≤(x:Int))=true:=by rw[A2];omega
  have d5:decide ((x:Int)≤57)=false:=by rw[Ar];omega
  go_enter Tryz.func419,Tryz.ntmps419
  go_wp2_with (go_at_call 420;refine(Vq x hx _).mono ?_;rintro e w1 ⟨rfl,hb⟩)
  go_ret
  exact⟨by rw[←HA.out];unfold Hz prn;simp<;>omega,hb⟩
 ·skip
  have d0:decide ((97:Int)≤(x:Int))=false:=by rw[Ar];omega
  have d1:decide ((x:Int)≤122)=true:=by rw[A2];omega
  have d2:decide ((65:Int)≤(x:Int))=true:=by rw[A2];omega
  have d3:decide ((x:Int)≤90)=true:=by rw[A2];omega
  have d4:decide ((48:Int)≤(x:Int))=true:=by rw[A2];omega
  have d5:decide ((x:Int)≤57)=false:=by rw[Ar];omega
  go_enter Tryz.func419,Tryz.ntmps419
  go_wp2
  go_ret
  exact⟨by rw[←HA.out];unfold Hz prn;simp<;>omega,Bq _ _⟩
 ·skip
  have d0:decide ((97:Int)≤(x:Int))=false:=by rw[Ar];omega
  have d1:decide ((x:Int)≤122)=true:=by rw[A2];omega
  have d2:decide ((65:Int)≤(x:Int))=true:=by rw[A2];omega
  have d3:decide ((x:Int)≤90)=false:=by rw[Ar];omega
  have d4:decide ((48:Int)≤(x:Int))=true:=by rw[A2];omega
  have d5:decide ((x:Int)≤57)=false:=by rw[Ar];omega
  go_enter Tryz.func419,Tryz.ntmps419
  go_wp2_with (go_at_call 420;refine(Vq x hx _).mono ?_;rintro e w1 ⟨rfl,hb⟩)
  go_ret
  exact⟨by rw[←HA.out];unfold Hz prn;simp<;>omega,hb⟩
 ·skip
  have d0:decide ((97:Int)≤(x:Int))=true:=by rw[A2];omega
  have d1:decide ((x:Int)≤122)=true:=by rw[A2];omega
  have d2:decide ((65:Int)≤(x:Int))=true:=by rw[A2];omega
  have d3:decide ((x:Int)≤90)=false:=by rw[Ar];omega
  have d4:decide ((48:Int)≤(x:Int))=true:=by rw[A2];omega
  have d5:decide ((x:Int)≤57)=false:=by rw[Ar];omega
  go_enter Tryz.func419,Tryz.ntmps419
  go_wp2
  go_ret
  exact⟨by rw[←HA.out];unfold Hz prn;simp<;>omega,Bq _ _⟩
 ·skip
  have d0:decide ((97:Int)≤(x:Int))=true:=by rw[A2];omega
  have d1:decide ((x:Int)≤122)=false:=by rw[Ar];omega
  have d2:decide ((65:Int)≤(x:Int))=true:=by rw[A2];omega
  have d3:decide ((x:Int)≤90)=false:=by rw[Ar];omega
  have d4:decide ((48:Int)≤(x:Int))=true:=by rw[A2];omega
  have d5:decide ((x:Int)≤57)=false:=by rw[Ar];omega
  go_enter Tryz.func419,Tryz.ntmps419
  go_wp2_with (go_at_call 420;refine(Vq x hx _).mono ?_;rintro e w1 ⟨rfl,hb⟩)
  go_ret
  exact⟨by rw[←HA.out];unfold Hz prn;simp<;>omega,hb⟩
end Go.Proofs.YtbedjionhmaafaaGreatDoor
