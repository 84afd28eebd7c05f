/- GForms: the texts Forms, one behind the other. No condition but what each lemma says. -/
import Derived.Test.YtokmjjkbginodaaGreatDoorGRegion
import Derived.Test.YtokmjjkbginodaaGreatDoorGMap
import Derived.Test.YtokmjjkbginodaaGreatDoorGClos
namespace Go.Proofs.YtokmjjkbginodaaGreatDoor
open Go.RowKit
theorem Ju {w w':World} {a:Addr} {u:Value} (h:w.cell? a=some u) (hb:Below w.heap.size w w'):w'.cell? a=some u:=by
 rw[hb.cell (Co h)];exact h
theorem Cp {w:World} {m b o:Nat} {R:Int→Value→Prop} {u:Value} (h:Dx w m R) (hc:w.cell? ⟨b,o,none⟩=some u):b≠m:=by
 rintro rfl
 obtain⟨es,c,h1,_⟩:=h
 simp[World.cell?,h1] at hc
theorem Cj {w w2:World} {b o:Nat} {u:Value} (hc:w.cell? ⟨b,o,none⟩=some u) (hk:w2.heap[b]?=w.heap[b]?):w2.cell? ⟨b,o,none⟩=some u:=by
 rw[←hc];exact World.cell?_of_block hk
def Ob (kv:List (Nat×Int×Value)) (d:Nat→Bool):Int→Value→Prop:=fun k v=>∃e∈kv,d e.1=true∧k=e.2.1∧v=e.2.2
theorem I3 {kv:List (Nat×Int×Value)} {d:Nat→Bool} {o:Nat} {kk:Int} {vv:Value} (h:∀e∈kv,e.1=o→e.2=(kk,vv)) (hm:(o,kk,vv)∈kv) (k:Int) (v:Value):
 (Ob kv d k v∨(k=kk∧v=vv))↔Ob kv (A3 d o) k v:=by
 constructor
 ·rintro(⟨e,he,h1,h2⟩|⟨rfl,rfl⟩)
  ·exact⟨e,he,by unfold A3;split<;>first|rfl|exact h1,h2⟩
  ·exact⟨_,hm,by simp[A3],rfl,rfl⟩
 ·rintro⟨e,he,h1,h2,h3⟩
  by_cases c:e.1=o
  ·right;have:=h e he c;rw[h2,h3,this];exact⟨rfl,rfl⟩
  ·left;exact⟨e,he,by simpa[A3,c] using h1,h2,h3⟩
theorem De {kv:List (Nat×Int×Value)} {d:Nat→Bool} {o:Nat} (h:∀e∈kv,e.1≠o) (k:Int) (v:Value):Ob kv d k v↔Ob kv (A3 d o) k v:=by
 unfold Ob
 constructor
 ·rintro⟨e,he,h1,h2⟩;exact⟨e,he,by rw[Ea _ _ _ (h e he)];exact h1,h2⟩
 ·rintro⟨e,he,h1,h2⟩;exact⟨e,he,by rw[Ea _ _ _ (h e he)] at h1;exact h1,h2⟩
theorem rK {kv:List (Nat×Int×Value)} {d:Nat→Bool} (h:∀e∈kv,d e.1=false) (k:Int) (v:Value):¬Ob kv d k v:=by
 rintro⟨e,he,h1,_⟩;rw[h e he] at h1;cases h1
theorem Hk {kv:List (Nat×Int×Value)} {d:Nat→Bool} {o:Nat} {kk:Int} (h:∀e∈kv,e.2.1=kk→e.1=o) (hd:d o=false) (v:Value):¬Ob kv d kk v:=by
 rintro⟨e,he,h1,h2,_⟩;rw[h e he h2.symm,hd] at h1;cases h1
def A1 (n b:Nat):List (Nat×Int×Value):=[(2,12,(.agg #[(.func (.func 192) #[] #[]),.int .i64 0])),(5,19,(.agg #[(.func (.func 188) #[] #[]),.int .i64 1])),(8,20,(.agg #[(.func (.func 191) #[] #[.pointer (some ⟨n+1+1,0,none⟩)]),.int .i64 1])),(11,22,(.agg #[(.func (.func 217) #[] #[.pointer (some ⟨b,0,none⟩),.pointer (some ⟨b+1,0,none⟩)]),.int .i64 1])),(14,26,(.agg #[(.func (.func 217) #[] #[.pointer (some ⟨n,0,none⟩),.pointer (some ⟨n+1,0,none⟩)]),.int .i64 1])),(16,28,(.agg #[(.func (.func 192) #[] #[]),.int .i64 4])),(18,30,(.agg #[(.func (.func 193) #[] #[]),.int .i64 2]))]
theorem rL (n b b':Nat) (d:Nat→Bool) (h:d 11=false) (k:Int) (v:Value):Ob (A1 n b) d k v↔Ob (A1 n b') d k v:=by
 unfold Ob A1
 simp[h]
def KH (n:Nat) (w0:World) (d:Nat→Bool) (a:Act) (w:World):Prop:=
 ∃(b:Nat) (x0 x6 x7 x8 x9 x10 x11 x12 x13 x14 x15 x16 x17 x18:Value),a={tmps:=#[x0,(.func (.func 188) #[] #[]),(.pointer (some ⟨n+1+1,0,none⟩)),(.func (.func 191) #[] #[.pointer (some ⟨n+1+1,0,none⟩)]),(.func (.func 217) #[] #[.pointer (some ⟨n,0,none⟩),.pointer (some ⟨n+1,0,none⟩)]),(.func (.func 191) #[] #[.pointer (some ⟨n+1+1,0,none⟩)]),x6,x7,x8,x9,x10,x11,x12,x13,x14,x15,x16,x17,x18],defers:=[]}∧Below w0.heap.size w0 w∧
  (d 0=true→∃m,x6= .map (some m)∧w0.heap.size≤m∧Dx w m (Ob (A1 n b) d))∧
  (d 1=true→x7=(.agg #[(.func (.func 192) #[] #[]),.int .i64 0]))∧
  (d 3=true→x8=(.func (.func 188) #[] #[]))∧
  (d 4=true→x9=(.agg #[(.func (.func 188) #[] #[]),.int .i64 1]))∧
  (d 6=true→x10=(.func (.func 191) #[] #[.pointer (some ⟨n+1+1,0,none⟩)]))∧
  (d 7=true→x11=(.agg #[(.func (.func 191) #[] #[.pointer (some ⟨n+1+1,0,none⟩)]),.int .i64 1]))∧
  (d 12=true→x14=(.func (.func 217) #[] #[.pointer (some ⟨n,0,none⟩),.pointer (some ⟨n+1,0,none⟩)]))∧
  (d 13=true→x15=(.agg #[(.func (.func 217) #[] #[.pointer (some ⟨n,0,none⟩),.pointer (some ⟨n+1,0,none⟩)]),.int .i64 1]))∧
  (d 15=true→x16=(.agg #[(.func (.func 192) #[] #[]),.int .i64 4]))∧
  (d 17=true→x17=(.agg #[(.func (.func 193) #[] #[]),.int .i64 2]))∧
  (d 9=true→x12=(.func (.func 217) #[] #[.pointer (some ⟨b,0,none⟩),.pointer (some ⟨b+1,0,none⟩)])∧w0.heap.size≤b∧w.cell? ⟨b,0,none⟩=some (.int .i32 0)∧w.cell? ⟨b+1,0,none⟩=some (.int .i32 127))∧
  (d 10=true→x13=(.agg #[(.func (.func 217) #[] #[.pointer (some ⟨b,0,none⟩),.pointer (some ⟨b+1,0,none⟩)]),.int .i64 1]))∧
  (d 19=true→x18=x6)∧
  (d 20=true→x0=x6)∧
  (d 11=true→d 10=true)∧
  (d 10=true→d 9=true)∧
  (d 19=true→d 0=true)∧
  (d 20=true→d 0=true)∧
  (d 2=true→d 0=true)∧
  (d 5=true→d 0=true)∧
  (d 8=true→d 0=true)∧
  (d 11=true→d 0=true)∧
  (d 14=true→d 0=true)∧
  (d 16=true→d 0=true)∧
  (d 18=true→d 0=true)
theorem Sj (a b:Int) (w:World):
 Calls Tryz.prog 190 #[.int .i32 a,.int .i32 b] w fun e w'=>e= .returned (.func (.func 217) #[] #[.pointer (some ⟨w.heap.size,0,none⟩),.pointer (some ⟨w.heap.size+1,0,none⟩)])∧w'=(w.alloc (.cells #[.int .i32 a] 21)).alloc (.cells #[.int .i32 b] 21):=by
 have hmf:∀(fn:Fn) (first cap:Array Value) (w:World),(Instr.makeFunc fn first cap).run Tryz.prog w= .ok (.func fn first cap) w:=fun _ _ _ _=>rfl
 go_enter Tryz.func190,Tryz.ntmps190
 go_wp2
 go_ret
 exact⟨rfl,rfl⟩
def Es (w:World) (m n b:Nat):Prop:=
 Dx w m (Ob (A1 n b) fun _=>true)∧w.cell? ⟨n+1+1,0,none⟩=some (.func (.func 217) #[] #[.pointer (some ⟨n,0,none⟩),.pointer (some ⟨n+1,0,none⟩)])∧w.cell? ⟨n,0,none⟩=some (.int .i32 32)∧w.cell? ⟨n+1,0,none⟩=some (.int .i32 126)∧
  w.cell? ⟨b,0,none⟩=some (.int .i32 0)∧w.cell? ⟨b+1,0,none⟩=some (.int .i32 127)
def rM (w:World) (e:Ending) (w':World):Prop:=
 ∃m n b,e= .returned (.map (some m))∧Es w' m n b∧(w.heap.size≤m∧w.heap.size≤n∧w.heap.size≤b)∧Below w.heap.size w w'
set_option maxRecDepth 100000 in
set_option maxHeartbeats 4000000 in
theorem Hl (w:World):
 Calls Tryz.prog 149 #[] w (rM w):=by
 have hmf:∀(fn:Fn) (first cap:Array Value) (w:World),(Instr.makeFunc fn first cap).run Tryz.prog w= .ok (.func fn first cap) w:=fun _ _ _ _=>rfl
 have hmm:=@run_makeMap Tryz.prog
 go_enter Tryz.func149,Tryz.ntmps149
 go_wp2_with (go_at_call 190;refine(Sj _ _ _).mono ?_;rintro e w' ⟨rfl,rfl⟩)
 obtain⟨n,hn⟩:∃n,w.heap.size=n:=⟨_,rfl⟩
 obtain⟨w0,hw0⟩:∃w0,((w.alloc (.cells #[.int .i32 32] 21)).alloc (.cells #[.int .i32 126] 21)).alloc (.cells #[.func (.func 217) #[] #[.pointer (some ⟨w.heap.size,0,none⟩),.pointer (some ⟨w.heap.size+1,0,none⟩)]] 220)=w0:=⟨_,rfl⟩
 rw[hw0]
 simp only[hn]
 have hcell:w0.cell? ⟨n+1+1,0,none⟩=some (.func (.func 217) #[] #[.pointer (some ⟨n,0,none⟩),.pointer (some ⟨n+1,0,none⟩)]):=by
  subst hn;subst hw0
  have h:=cell_of_row _ _ 0 _ _ _ (heap_alloc_new ((w.alloc (.cells #[.int .i32 32] 21)).alloc (.cells #[.int .i32 126] 21)) (.cells #[.func (.func 217) #[] #[.pointer (some ⟨w.heap.size,0,none⟩),.pointer (some ⟨w.heap.size+1,0,none⟩)]] 220))
  simpa using h
 have hn2:n+1+1<w0.heap.size:=by subst hn;subst hw0;simp
 have HW:=Zh hw0;clear hw0
 refine Js (by kernel_rfl) (by kernel_rfl) (KH n w0) ?first ?steps ?last
 case first=>
  refine⟨0,_,_,_,_,_,_,_,_,_,_,_,_,_,_,rfl,(Below.refl _ _).drew,(fun h=>by cases h),(fun h=>by cases h),(fun h=>by cases h),(fun h=>by cases h),(fun h=>by cases h),(fun h=>by cases h),(fun h=>by cases h),(fun h=>by cases h),(fun h=>by cases h),(fun h=>by cases h),(fun h=>by cases h),(fun h=>by cases h),(fun h=>by cases h),(fun h=>by cases h),(fun h=>by cases h),(fun h=>by cases h),(fun h=>by cases h),(fun h=>by cases h),(fun h=>by cases h),(fun h=>by cases h),(fun h=>by cases h),(fun h=>by cases h),(fun h=>by cases h),(fun h=>by cases h),(fun h=>by cases h)⟩
 case last=>
  rintro a w2 ⟨b,x0,x6,x7,x8,x9,x10,x11,x12,x13,x14,x15,x16,x17,x18,rfl,hb,f0,f1,f3,f4,f6,f7,f12,f13,f15,f17,f9,f10,f19,f20,c1,c2,c3,c4,i2,i5,i8,i11,i14,i16,i18⟩
  have g:=f20 rfl;subst g
  obtain⟨m,e1,e2,e3⟩:=f0 rfl
  obtain⟨q1,q2,q3,q4⟩:=f9 rfl
  subst e1
  have hm:Dx w2 m (Ob (A1 n b) fun _=>true):=e3.congr fun k v=>by
   unfold Ob A1;simp
  have h0:w0.cell? ⟨n,0,none⟩=some (.int .i32 32)∧w0.cell? ⟨n+1,0,none⟩=some (.int .i32 126):=by
   have e:=HW.out
   have c1:(w.alloc (.cells #[.int .i32 32] 21)).cell? ⟨w.heap.size,0,none⟩=some (.int .i32 32):=by rw[cell_of_row _ _ 0 _ _ _ (heap_alloc_new w _)];rfl
   have c2:((w.alloc (.cells #[.int .i32 32] 21)).alloc (.cells #[.int .i32 126] 21)).cell? ⟨(w.alloc (.cells #[.int .i32 32] 21)).heap.size,0,none⟩=some (.int .i32 126):=by rw[cell_of_row _ _ 0 _ _ _ (heap_alloc_new (w.alloc _) _)];rfl
   rw[←e,←hn]
   have c3:=Ju c1 (((Below.refl _ _).alloc (Nat.le_refl _) (.cells #[.int .i32 126] 21)).alloc (by simp) (.cells #[.func (.func 217) #[] #[.pointer (some ⟨w.heap.size,0,none⟩),.pointer (some ⟨w.heap.size+1,0,none⟩)]] 220))
   have c4:=Ju c2 ((Below.refl _ _).alloc (Nat.le_refl _) (.cells #[.func (.func 217) #[] #[.pointer (some ⟨w.heap.size,0,none⟩),.pointer (some ⟨w.heap.size+1,0,none⟩)]] 220))
   rw[World.size_alloc] at c4
   exact⟨c3,c4⟩
  have hbw:Below w.heap.size w w0:=by
   have e:=HW.out;rw[←e];exact(((Below.refl _ _).alloc (Nat.le_refl _) _).alloc (by simp) _).alloc (by simp;omega) _
  have hF:Es w2 m n b:=⟨hm,(hb.cell (p:=⟨n+1+1,0,none⟩) hn2).trans hcell,(hb.cell (p:=⟨n,0,none⟩) (by show n<_;omega)).trans h0.1,(hb.cell (p:=⟨n+1,0,none⟩) (by show n+1<_;omega)).trans h0.2,q3,q4⟩
  have HF:=Zh hF
  have hml:=e2;have hbl:=q2
  clear f0 f9 e3 hm hF q1 q2 q3 q4 f1 f3 f4 f6 f7 f12 f13 f15 f17 f10 f19 c1 c2 c3 c4 i2 i5 i8 i11 i14 i16 i18
  go_wp2
  go_ret
  refine⟨m,n,b,rfl,HF.out,⟨Nat.le_trans hbw.size hml,by omega,Nat.le_trans hbw.size hbl⟩,?_⟩
  exact hbw.trans (hb.mono hbw.size)
 case steps=>
  refine⟨?_,?_,?_,?_,?_,?_,?_,?_,?_,?_,?_,?_,?_,?_,?_,?_,?_,?_,?_,?_,?_,trivial⟩
  ·rintro d a w hd hdep ⟨b,x0,x6,x7,x8,x9,x10,x11,x12,x13,x14,x15,x16,x17,x18,rfl,hb,f0,f1,f3,f4,f6,f7,f12,f13,f15,f17,f9,f10,f19,f20,c1,c2,c3,c4,i2,i5,i8,i11,i14,i16,i18⟩
   have z20:d 20=false:=by cases h:d 20 with|false=>rfl|true=>rw[c4 h] at hd;cases hd
   have z19:d 19=false:=by cases h:d 19 with|false=>rfl|true=>rw[c3 h] at hd;cases hd
   have z18:d 18=false:=by cases h:d 18 with|false=>rfl|true=>rw[i18 h] at hd;cases hd
   have z16:d 16=false:=by cases h:d 16 with|false=>rfl|true=>rw[i16 h] at hd;cases hd
   have z14:d 14=false:=by cases h:d 14 with|false=>rfl|true=>rw[i14 h] at hd;cases hd
   have z11:d 11=false:=by cases h:d 11 with|false=>rfl|true=>rw[i11 h] at hd;cases hd
   have z8:d 8=false:=by cases h:d 8 with|false=>rfl|true=>rw[i8 h] at hd;cases hd
   have z5:d 5=false:=by cases h:d 5 with|false=>rfl|true=>rw[i5 h] at hd;cases hd
   have z2:d 2=false:=by cases h:d 2 with|false=>rfl|true=>rw[i2 h] at hd;cases hd
   have Hf0:=Zh f0;have Hf1:=Zh f1;have Hf3:=Zh f3;have Hf4:=Zh f4;have Hf6:=Zh f6;have Hf7:=Zh f7;have Hf12:=Zh f12;have Hf13:=Zh f13;have Hf15:=Zh f15;have Hf17:=Zh f17;have Hf9:=Zh f9;have Hf10:=Zh f10;have Hf19:=Zh f19;have Hf20:=Zh f20;have Hc1:=Zh c1;have Hc2:=Zh c2;have Hc3:=Zh c3;have Hc4:=Zh c4;have Hi2:=Zh i2;have Hi5:=Zh i5;have Hi8:=Zh i8;have Hi11:=Zh i11;have Hi14:=Zh i14;have Hi16:=Zh i16;have Hi18:=Zh i18;clear f0 f1 f3 f4 f6 f7 f12 f13 f15 f17 f9 f10 f19 f20 c1 c2 c3 c4 i2 i5 i8 i11 i14 i16 i18
   go_wp2
   exact⟨b,x0,_,x7,x8,x9,x10,x11,x12,x13,x14,x15,x16,x17,x18,rfl,hb.alloc hb.size _,fun _=>⟨_,rfl,hb.size,(Dx.made w).congr fun k v=>⟨False.elim,fun h=>rK (by simp[A1,A3,z2,z5,z8,z11,z14,z16,z18]) k v h⟩⟩,
    Hf1.out,
    Hf3.out,
    Hf4.out,
    Hf6.out,
    Hf7.out,
    Hf12.out,
    Hf13.out,
    Hf15.out,
    Hf17.out,
    fun h=>by obtain⟨e1,e2,e3,e4⟩:=Hf9.out h;exact⟨e1,e2,Ju e3 ((Below.refl _ _).alloc (Nat.le_refl _) _),Ju e4 ((Below.refl _ _).alloc (Nat.le_refl _) _)⟩,
    Hf10.out,
    fun h=>absurd (by simpa[A3] using h:d 19=true) (by simp[z19]),
    fun h=>absurd (by simpa[A3] using h:d 20=true) (by simp[z20]),
    Hc1.out,
    Hc2.out,
    fun _=>by simp[A3],
    fun _=>by simp[A3],
    fun _=>by simp[A3],
    fun _=>by simp[A3],
    fun _=>by simp[A3],
    fun _=>by simp[A3],
    fun _=>by simp[A3],
    fun _=>by simp[A3],
    fun _=>by simp[A3]⟩
  ·rintro d a w hd hdep ⟨b,x0,x6,x7,x8,x9,x10,x11,x12,x13,x14,x15,x16,x17,x18,rfl,hb,f0,f1,f3,f4,f6,f7,f12,f13,f15,f17,f9,f10,f19,f20,c1,c2,c3,c4,i2,i5,i8,i11,i14,i16,i18⟩
   have Hf0:=Zh f0;have Hf1:=Zh f1;have Hf3:=Zh f3;have Hf4:=Zh f4;have Hf6:=Zh f6;have Hf7:=Zh f7;have Hf12:=Zh f12;have Hf13:=Zh f13;have Hf15:=Zh f15;have Hf17:=Zh f17;have Hf9:=Zh f9;have Hf10:=Zh f10;have Hf19:=Zh f19;have Hf20:=Zh f20;have Hc1:=Zh c1;have Hc2:=Zh c2;have Hc3:=Zh c3;have Hc4:=Zh c4;have Hi2:=Zh i2;have Hi5:=Zh i5;have Hi8:=Zh i8;have Hi11:=Zh i11;have Hi14:=Zh i14;have Hi16:=Zh i16;have Hi18:=Zh i18;clear f0 f1 f3 f4 f6 f7 f12 f13 f15 f17 f9 f10 f19 f20 c1 c2 c3 c4 i2 i5 i8 i11 i14 i16 i18
   go_wp2
   exact⟨b,x0,x6,_,x8,x9,x10,x11,x12,x13,x14,x15,x16,x17,x18,rfl,hb,fun h=>by obtain⟨m,e1,e2,e3⟩:=Hf0.out h;exact⟨m,e1,e2,e3.congr (De (by simp[A1]))⟩,
    fun _=>rfl,
    Hf3.out,
    Hf4.out,
    Hf6.out,
    Hf7.out,
    Hf12.out,
    Hf13.out,
    Hf15.out,
    Hf17.out,
    Hf9.out,
    Hf10.out,
    Hf19.out,
    Hf20.out,
    Hc1.out,
    Hc2.out,
    Hc3.out,
    Hc4.out,
    Hi2.out,
    Hi5.out,
    Hi8.out,
    Hi11.out,
    Hi14.out,
    Hi16.out,
    Hi18.out⟩
  ·rintro d a w hd hdep ⟨b,x0,x6,x7,x8,x9,x10,x11,x12,x13,x14,x15,x16,x17,x18,rfl,hb,f0,f1,f3,f4,f6,f7,f12,f13,f15,f17,f9,f10,f19,f20,c1,c2,c3,c4,i2,i5,i8,i11,i14,i16,i18⟩
   have p0:d 0=true:=hdep ⟨0,.data⟩ (by simp) rfl
   have p1:d 1=true:=hdep ⟨1,.data⟩ (by simp) rfl
   obtain⟨m,e1,e2,e3⟩:=f0 p0
   have g:=f1 p1
   subst g;subst e1
   obtain⟨w2,hr,hm2,hk,h1,h2,h3,h4⟩:=e3.insert (P:=Tryz.prog) Tryz.underlying223 Tryz.underlying3 (k:=12) (.agg #[(.func (.func 192) #[] #[]),.int .i64 0]) (Hk (o:=2) (by simp[A1]) hd)
   have E3:=Zh e3;clear e3
   have Hf0:=Zh f0;have Hf1:=Zh f1;have Hf3:=Zh f3;have Hf4:=Zh f4;have Hf6:=Zh f6;have Hf7:=Zh f7;have Hf12:=Zh f12;have Hf13:=Zh f13;have Hf15:=Zh f15;have Hf17:=Zh f17;have Hf9:=Zh f9;have Hf10:=Zh f10;have Hf19:=Zh f19;have Hf20:=Zh f20;have Hc1:=Zh c1;have Hc2:=Zh c2;have Hc3:=Zh c3;have Hc4:=Zh c4;have Hi2:=Zh i2;have Hi5:=Zh i5;have Hi8:=Zh i8;have Hi11:=Zh i11;have Hi14:=Zh i14;have Hi16:=Zh i16;have Hi18:=Zh i18;clear f0 f1 f3 f4 f6 f7 f12 f13 f15 f17 f9 f10 f19 f20 c1 c2 c3 c4 i2 i5 i8 i11 i14 i16 i18
   go_wp2
   exact⟨b,x0,_,_,x8,x9,x10,x11,x12,x13,x14,x15,x16,x17,x18,rfl,Ek hb e2 hk h1 h2 h3 h4,fun _=>⟨m,rfl,e2,hm2.congr (I3 (by simp[A1]) (by simp[A1]))⟩,
    fun _=>rfl,
    Hf3.out,
    Hf4.out,
    Hf6.out,
    Hf7.out,
    Hf12.out,
    Hf13.out,
    Hf15.out,
    Hf17.out,
    fun h=>by obtain⟨q1,q2,q3,q4⟩:=Hf9.out h;exact⟨q1,q2,Cj q3 (hk b (Cp E3.out q3)),Cj q4 (hk (b+1) (Cp E3.out q4))⟩,
    Hf10.out,
    Hf19.out,
    Hf20.out,
    Hc1.out,
    Hc2.out,
    Hc3.out,
    Hc4.out,
    fun _=>by simpa[A3] using p0,
    Hi5.out,
    Hi8.out,
    Hi11.out,
    Hi14.out,
    Hi16.out,
    Hi18.out⟩
  ·rintro d a w hd hdep ⟨b,x0,x6,x7,x8,x9,x10,x11,x12,x13,x14,x15,x16,x17,x18,rfl,hb,f0,f1,f3,f4,f6,f7,f12,f13,f15,f17,f9,f10,f19,f20,c1,c2,c3,c4,i2,i5,i8,i11,i14,i16,i18⟩
   have Hf0:=Zh f0;have Hf1:=Zh f1;have Hf3:=Zh f3;have Hf4:=Zh f4;have Hf6:=Zh f6;have Hf7:=Zh f7;have Hf12:=Zh f12;have Hf13:=Zh f13;have Hf15:=Zh f15;have Hf17:=Zh f17;have Hf9:=Zh f9;have Hf10:=Zh f10;have Hf19:=Zh f19;have Hf20:=Zh f20;have Hc1:=Zh c1;have Hc2:=Zh c2;have Hc3:=Zh c3;have Hc4:=Zh c4;have Hi2:=Zh i2;have Hi5:=Zh i5;have Hi8:=Zh i8;have Hi11:=Zh i11;have Hi14:=Zh i14;have Hi16:=Zh i16;have Hi18:=Zh i18;clear f0 f1 f3 f4 f6 f7 f12 f13 f15 f17 f9 f10 f19 f20 c1 c2 c3 c4 i2 i5 i8 i11 i14 i16 i18
   go_wp2
   exact⟨b,x0,x6,x7,_,x9,x10,x11,x12,x13,x14,x15,x16,x17,x18,rfl,hb,fun h=>by obtain⟨m,e1,e2,e3⟩:=Hf0.out h;exact⟨m,e1,e2,e3.congr (De (by simp[A1]))⟩,
    Hf1.out,
    fun _=>rfl,
    Hf4.out,
    Hf6.out,
    Hf7.out,
    Hf12.out,
    Hf13.out,
    Hf15.out,
    Hf17.out,
    Hf9.out,
    Hf10.out,
    Hf19.out,
    Hf20.out,
    Hc1.out,
    Hc2.out,
    Hc3.out,
    Hc4.out,
    Hi2.out,
    Hi5.out,
    Hi8.out,
    Hi11.out,
    Hi14.out,
    Hi16.out,
    Hi18.out⟩
  ·rintro d a w hd hdep ⟨b,x0,x6,x7,x8,x9,x10,x11,x12,x13,x14,x15,x16,x17,x18,rfl,hb,f0,f1,f3,f4,f6,f7,f12,f13,f15,f17,f9,f10,f19,f20,c1,c2,c3,c4,i2,i5,i8,i11,i14,i16,i18⟩
   have p3:d 3=true:=hdep ⟨3,.data⟩ (by simp) rfl
   have g:=f3 p3
   subst g
   have Hf0:=Zh f0;have Hf1:=Zh f1;have Hf3:=Zh f3;have Hf4:=Zh f4;have Hf6:=Zh f6;have Hf7:=Zh f7;have Hf12:=Zh f12;have Hf13:=Zh f13;have Hf15:=Zh f15;have Hf17:=Zh f17;have Hf9:=Zh f9;have Hf10:=Zh f10;have Hf19:=Zh f19;have Hf20:=Zh f20;have Hc1:=Zh c1;have Hc2:=Zh c2;have Hc3:=Zh c3;have Hc4:=Zh c4;have Hi2:=Zh i2;have Hi5:=Zh i5;have Hi8:=Zh i8;have Hi11:=Zh i11;have Hi14:=Zh i14;have Hi16:=Zh i16;have Hi18:=Zh i18;clear f0 f1 f3 f4 f6 f7 f12 f13 f15 f17 f9 f10 f19 f20 c1 c2 c3 c4 i2 i5 i8 i11 i14 i16 i18
   go_wp2
   exact⟨b,x0,x6,x7,_,_,x10,x11,x12,x13,x14,x15,x16,x17,x18,rfl,hb,fun h=>by obtain⟨m,e1,e2,e3⟩:=Hf0.out h;exact⟨m,e1,e2,e3.congr (De (by simp[A1]))⟩,
    Hf1.out,
    fun _=>rfl,
    fun _=>rfl,
    Hf6.out,
    Hf7.out,
    Hf12.out,
    Hf13.out,
    Hf15.out,
    Hf17.out,
    Hf9.out,
    Hf10.out,
    Hf19.out,
    Hf20.out,
    Hc1.out,
    Hc2.out,
    Hc3.out,
    Hc4.out,
    Hi2.out,
    Hi5.out,
    Hi8.out,
    Hi11.out,
    Hi14.out,
    Hi16.out,
    Hi18.out⟩
  ·rintro d a w hd hdep ⟨b,x0,x6,x7,x8,x9,x10,x11,x12,x13,x14,x15,x16,x17,x18,rfl,hb,f0,f1,f3,f4,f6,f7,f12,f13,f15,f17,f9,f10,f19,f20,c1,c2,c3,c4,i2,i5,i8,i11,i14,i16,i18⟩
   have p0:d 0=true:=hdep ⟨0,.data⟩ (by simp) rfl
   have p4:d 4=true:=hdep ⟨4,.data⟩ (by simp) rfl
   obtain⟨m,e1,e2,e3⟩:=f0 p0
   have g:=f4 p4
   subst g;subst e1
   obtain⟨w2,hr,hm2,hk,h1,h2,h3,h4⟩:=e3.insert (P:=Tryz.prog) Tryz.underlying223 Tryz.underlying3 (k:=19) (.agg #[(.func (.func 188) #[] #[]),.int .i64 1]) (Hk (o:=5) (by simp[A1]) hd)
   have E3:=Zh e3;clear e3
   have Hf0:=Zh f0;have Hf1:=Zh f1;have Hf3:=Zh f3;have Hf4:=Zh f4;have Hf6:=Zh f6;have Hf7:=Zh f7;have Hf12:=Zh f12;have Hf13:=Zh f13;have Hf15:=Zh f15;have Hf17:=Zh f17;have Hf9:=Zh f9;have Hf10:=Zh f10;have Hf19:=Zh f19;have Hf20:=Zh f20;have Hc1:=Zh c1;have Hc2:=Zh c2;have Hc3:=Zh c3;have Hc4:=Zh c4;have Hi2:=Zh i2;have Hi5:=Zh i5;have Hi8:=Zh i8;have Hi11:=Zh i11;have Hi14:=Zh i14;have Hi16:=Zh i16;have Hi18:=Zh i18;clear f0 f1 f3 f4 f6 f7 f12 f13 f15 f17 f9 f10 f19 f20 c1 c2 c3 c4 i2 i5 i8 i11 i14 i16 i18
   go_wp2
   exact⟨b,x0,_,x7,x8,_,x10,x11,x12,x13,x14,x15,x16,x17,x18,rfl,Ek hb e2 hk h1 h2 h3 h4,fun _=>⟨m,rfl,e2,hm2.congr (I3 (by simp[A1]) (by simp[A1]))⟩,
    Hf1.out,
    Hf3.out,
    fun _=>rfl,
    Hf6.out,
    Hf7.out,
    Hf12.out,
    Hf13.out,
    Hf15.out,
    Hf17.out,
    fun h=>by obtain⟨q1,q2,q3,q4⟩:=Hf9.out h;exact⟨q1,q2,Cj q3 (hk b (Cp E3.out q3)),Cj q4 (hk (b+1) (Cp E3.out q4))⟩,
    Hf10.out,
    Hf19.out,
    Hf20.out,
    Hc1.out,
    Hc2.out,
    Hc3.out,
    Hc4.out,
    Hi2.out,
    fun _=>by simpa[A3] using p0,
    Hi8.out,
    Hi11.out,
    Hi14.out,
    Hi16.out,
    Hi18.out⟩
  ·rintro d a w hd hdep ⟨b,x0,x6,x7,x8,x9,x10,x11,x12,x13,x14,x15,x16,x17,x18,rfl,hb,f0,f1,f3,f4,f6,f7,f12,f13,f15,f17,f9,f10,f19,f20,c1,c2,c3,c4,i2,i5,i8,i11,i14,i16,i18⟩
   have Hf0:=Zh f0;have Hf1:=Zh f1;have Hf3:=Zh f3;have Hf4:=Zh f4;have Hf6:=Zh f6;have Hf7:=Zh f7;have Hf12:=Zh f12;have Hf13:=Zh f13;have Hf15:=Zh f15;have Hf17:=Zh f17;have Hf9:=Zh f9;have Hf10:=Zh f10;have Hf19:=Zh f19;have Hf20:=Zh f20;have Hc1:=Zh c1;have Hc2:=Zh c2;have Hc3:=Zh c3;have Hc4:=Zh c4;have Hi2:=Zh i2;have Hi5:=Zh i5;have Hi8:=Zh i8;have Hi11:=Zh i11;have Hi14:=Zh i14;have Hi16:=Zh i16;have Hi18:=Zh i18;clear f0 f1 f3 f4 f6 f7 f12 f13 f15 f17 f9 f10 f19 f20 c1 c2 c3 c4 i2 i5 i8 i11 i14 i16 i18
   go_wp2
   exact⟨b,x0,x6,x7,x8,x9,_,x11,x12,x13,x14,x15,x16,x17,x18,rfl,hb,fun h=>by obtain⟨m,e1,e2,e3⟩:=Hf0.out h;exact⟨m,e1,e2,e3.congr (De (by simp[A1]))⟩,
    Hf1.out,
    Hf3.out,
    Hf4.out,
    fun _=>rfl,
    Hf7.out,
    Hf12.out,
    Hf13.out,
    Hf15.out,
    Hf17.out,
    Hf9.out,
    Hf10.out,
    Hf19.out,
    Hf20.out,
    Hc1.out,
    Hc2.out,
    Hc3.out,
    Hc4.out,
    Hi2.out,
    Hi5.out,
    Hi8.out,
    Hi11.out,
    Hi14.out,
    Hi16.out,
    Hi18.out⟩
  ·rintro d a w hd hdep ⟨b,x0,x6,x7,x8,x9,x10,x11,x12,x13,x14,x15,x16,x17,x18,rfl,hb,f0,f1,f3,f4,f6,f7,f12,f13,f15,f17,f9,f10,f19,f20,c1,c2,c3,c4,i2,i5,i8,i11,i14,i16,i18⟩
   have p6:d 6=true:=hdep ⟨6,.data⟩ (by simp) rfl
   have g:=f6 p6
   subst g
   have Hf0:=Zh f0;have Hf1:=Zh f1;have Hf3:=Zh f3;have Hf4:=Zh f4;have Hf6:=Zh f6;have Hf7:=Zh f7;have Hf12:=Zh f12;have Hf13:=Zh f13;have Hf15:=Zh f15;have Hf17:=Zh f17;have Hf9:=Zh f9;have Hf10:=Zh f10;have Hf19:=Zh f19;have Hf20:=Zh f20;have Hc1:=Zh c1;have Hc2:=Zh c2;have Hc3:=Zh c3;have Hc4:=Zh c4;have Hi2:=Zh i2;have Hi5:=Zh i5;have Hi8:=Zh i8;have Hi11:=Zh i11;have Hi14:=Zh i14;have Hi16:=Zh i16;have Hi18:=Zh i18;clear f0 f1 f3 f4 f6 f7 f12 f13 f15 f17 f9 f10 f19 f20 c1 c2 c3 c4 i2 i5 i8 i11 i14 i16 i18
   go_wp2
   exact⟨b,x0,x6,x7,x8,x9,_,_,x12,x13,x14,x15,x16,x17,x18,rfl,hb,fun h=>by obtain⟨m,e1,e2,e3⟩:=Hf0.out h;exact⟨m,e1,e2,e3.congr (De (by simp[A1]))⟩,
    Hf1.out,
    Hf3.out,
    Hf4.out,
    fun _=>rfl,
    fun _=>rfl,
    Hf12.out,
    Hf13.out,
    Hf15.out,
    Hf17.out,
    Hf9.out,
    Hf10.out,
    Hf19.out,
    Hf20.out,
    Hc1.out,
    Hc2.out,
    Hc3.out,
    Hc4.out,
    Hi2.out,
    Hi5.out,
    Hi8.out,
    Hi11.out,
    Hi14.out,
    Hi16.out,
    Hi18.out⟩
  ·rintro d a w hd hdep ⟨b,x0,x6,x7,x8,x9,x10,x11,x12,x13,x14,x15,x16,x17,x18,rfl,hb,f0,f1,f3,f4,f6,f7,f12,f13,f15,f17,f9,f10,f19,f20,c1,c2,c3,c4,i2,i5,i8,i11,i14,i16,i18⟩
   have p0:d 0=true:=hdep ⟨0,.data⟩ (by simp) rfl
   have p7:d 7=true:=hdep ⟨7,.data⟩ (by simp) rfl
   obtain⟨m,e1,e2,e3⟩:=f0 p0
   have g:=f7 p7
   subst g;subst e1
   obtain⟨w2,hr,hm2,hk,h1,h2,h3,h4⟩:=e3.insert (P:=Tryz.prog) Tryz.underlying223 Tryz.underlying3 (k:=20) (.agg #[(.func (.func 191) #[] #[.pointer (some ⟨n+1+1,0,none⟩)]),.int .i64 1]) (Hk (o:=8) (by simp[A1]) hd)
   have E3:=Zh e3;clear e3
   have Hf0:=Zh f0;have Hf1:=Zh f1;have Hf3:=Zh f3;have Hf4:=Zh f4;have Hf6:=Zh f6;have Hf7:=Zh f7;have Hf12:=Zh f12;have Hf13:=Zh f13;have Hf15:=Zh f15;have Hf17:=Zh f17;have Hf9:=Zh f9;have Hf10:=Zh f10;have Hf19:=Zh f19;have Hf20:=Zh f20;have Hc1:=Zh c1;have Hc2:=Zh c2;have Hc3:=Zh c3;have Hc4:=Zh c4;have Hi2:=Zh i2;have Hi5:=Zh i5;have Hi8:=Zh i8;have Hi11:=Zh i11;have Hi14:=Zh i14;have Hi16:=Zh i16;have Hi18:=Zh i18;clear f0 f1 f3 f4 f6 f7 f12 f13 f15 f17 f9 f10 f19 f20 c1 c2 c3 c4 i2 i5 i8 i11 i14 i16 i18
   go_wp2
   exact⟨b,x0,_,x7,x8,x9,x10,_,x12,x13,x14,x15,x16,x17,x18,rfl,Ek hb e2 hk h1 h2 h3 h4,fun _=>⟨m,rfl,e2,hm2.congr (I3 (by simp[A1]) (by simp[A1]))⟩,
    Hf1.out,
    Hf3.out,
    Hf4.out,
    Hf6.out,
    fun _=>rfl,
    Hf12.out,
    Hf13.out,
    Hf15.out,
    Hf17.out,
    fun h=>by obtain⟨q1,q2,q3,q4⟩:=Hf9.out h;exact⟨q1,q2,Cj q3 (hk b (Cp E3.out q3)),Cj q4 (hk (b+1) (Cp E3.out q4))⟩,
    Hf10.out,
    Hf19.out,
    Hf20.out,
    Hc1.out,
    Hc2.out,
    Hc3.out,
    Hc4.out,
    Hi2.out,
    Hi5.out,
    fun _=>by simpa[A3] using p0,
    Hi11.out,
    Hi14.out,
    Hi16.out,
    Hi18.out⟩
  ·rintro d a w hd hdep ⟨b,x0,x6,x7,x8,x9,x10,x11,x12,x13,x14,x15,x16,x17,x18,rfl,hb,f0,f1,f3,f4,f6,f7,f12,f13,f15,f17,f9,f10,f19,f20,c1,c2,c3,c4,i2,i5,i8,i11,i14,i16,i18⟩
   have n10:d 10=false:=by cases h:d 10 with|false=>rfl|true=>rw[c2 h] at hd;cases hd
   have n11:d 11=false:=by cases h:d 11 with|false=>rfl|true=>rw[c1 h] at n10;cases n10
   have Hf0:=Zh f0;have Hf1:=Zh f1;have Hf3:=Zh f3;have Hf4:=Zh f4;have Hf6:=Zh f6;have Hf7:=Zh f7;have Hf12:=Zh f12;have Hf13:=Zh f13;have Hf15:=Zh f15;have Hf17:=Zh f17;have Hf9:=Zh f9;have Hf10:=Zh f10;have Hf19:=Zh f19;have Hf20:=Zh f20;have Hc1:=Zh c1;have Hc2:=Zh c2;have Hc3:=Zh c3;have Hc4:=Zh c4;have Hi2:=Zh i2;have Hi5:=Zh i5;have Hi8:=Zh i8;have Hi11:=Zh i11;have Hi14:=Zh i14;have Hi16:=Zh i16;have Hi18:=Zh i18;clear f0 f1 f3 f4 f6 f7 f12 f13 f15 f17 f9 f10 f19 f20 c1 c2 c3 c4 i2 i5 i8 i11 i14 i16 i18
   go_wp2_with (go_at_call 190;refine(Sj _ _ _).mono ?_;rintro e w' ⟨rfl,rfl⟩)
   exact⟨w.heap.size,x0,x6,x7,x8,x9,x10,x11,_,x13,x14,x15,x16,x17,x18,rfl,(hb.alloc hb.size _).alloc (by have:=hb.size;simp;omega) _,fun h=>by obtain⟨m,e1,e2,e3⟩:=Hf0.out h;exact⟨m,e1,e2,(e3.keep ((((Below.refl w.heap.size w).alloc (Nat.le_refl _) _).alloc (by simp) _).block m e3.lt)).congr fun k v=>(rL n b w.heap.size d n11 k v).trans (De (by simp[A1]) k v)⟩,
    Hf1.out,
    Hf3.out,
    Hf4.out,
    Hf6.out,
    Hf7.out,
    Hf12.out,
    Hf13.out,
    Hf15.out,
    Hf17.out,
    fun _=>⟨rfl,hb.size,by simp,by simp⟩,
    fun h=>absurd (by simpa[A3] using h:d 10=true) (by simp[n10]),
    Hf19.out,
    Hf20.out,
    Hc1.out,
    fun h=>by simp[A3],
    Hc3.out,
    Hc4.out,
    Hi2.out,
    Hi5.out,
    Hi8.out,
    Hi11.out,
    Hi14.out,
    Hi16.out,
    Hi18.out⟩
  ·rintro d a w hd hdep ⟨b,x0,x6,x7,x8,x9,x10,x11,x12,x13,x14,x15,x16,x17,x18,rfl,hb,f0,f1,f3,f4,f6,f7,f12,f13,f15,f17,f9,f10,f19,f20,c1,c2,c3,c4,i2,i5,i8,i11,i14,i16,i18⟩
   have p9:d 9=true:=hdep ⟨9,.data⟩ (by simp) rfl
   obtain⟨g,g1,g2,g3⟩:=f9 p9
   subst g
   have Hf0:=Zh f0;have Hf1:=Zh f1;have Hf3:=Zh f3;have Hf4:=Zh f4;have Hf6:=Zh f6;have Hf7:=Zh f7;have Hf12:=Zh f12;have Hf13:=Zh f13;have Hf15:=Zh f15;have Hf17:=Zh f17;have Hf9:=Zh f9;have Hf10:=Zh f10;have Hf19:=Zh f19;have Hf20:=Zh f20;have Hc1:=Zh c1;have Hc2:=Zh c2;have Hc3:=Zh c3;have Hc4:=Zh c4;have Hi2:=Zh i2;have Hi5:=Zh i5;have Hi8:=Zh i8;have Hi11:=Zh i11;have Hi14:=Zh i14;have Hi16:=Zh i16;have Hi18:=Zh i18;clear f0 f1 f3 f4 f6 f7 f12 f13 f15 f17 f9 f10 f19 f20 c1 c2 c3 c4 i2 i5 i8 i11 i14 i16 i18
   go_wp2
   exact⟨b,x0,x6,x7,x8,x9,x10,x11,_,_,x14,x15,x16,x17,x18,rfl,hb,fun h=>by obtain⟨m,e1,e2,e3⟩:=Hf0.out h;exact⟨m,e1,e2,e3.congr (De (by simp[A1]))⟩,
    Hf1.out,
    Hf3.out,
    Hf4.out,
    Hf6.out,
    Hf7.out,
    Hf12.out,
    Hf13.out,
    Hf15.out,
    Hf17.out,
    fun _=>⟨rfl,g1,g2,g3⟩,
    fun _=>rfl,
    Hf19.out,
    Hf20.out,
    fun h=>by simp[A3],
    fun _=>by simpa[A3] using p9,
    Hc3.out,
    Hc4.out,
    Hi2.out,
    Hi5.out,
    Hi8.out,
    Hi11.out,
    Hi14.out,
    Hi16.out,
    Hi18.out⟩
  ·rintro d a w hd hdep ⟨b,x0,x6,x7,x8,x9,x10,x11,x12,x13,x14,x15,x16,x17,x18,rfl,hb,f0,f1,f3,f4,f6,f7,f12,f13,f15,f17,f9,f10,f19,f20,c1,c2,c3,c4,i2,i5,i8,i11,i14,i16,i18⟩
   have p0:d 0=true:=hdep ⟨0,.data⟩ (by simp) rfl
   have p10:d 10=true:=hdep ⟨10,.data⟩ (by simp) rfl
   obtain⟨m,e1,e2,e3⟩:=f0 p0
   have g:=f10 p10
   subst g;subst e1
   obtain⟨w2,hr,hm2,hk,h1,h2,h3,h4⟩:=e3.insert (P:=Tryz.prog) Tryz.underlying223 Tryz.underlying3 (k:=22) (.agg #[(.func (.func 217) #[] #[.pointer (some ⟨b,0,none⟩),.pointer (some ⟨b+1,0,none⟩)]),.int .i64 1]) (Hk (o:=11) (by simp[A1]) hd)
   have E3:=Zh e3;clear e3
   have Hf0:=Zh f0;have Hf1:=Zh f1;have Hf3:=Zh f3;have Hf4:=Zh f4;have Hf6:=Zh f6;have Hf7:=Zh f7;have Hf12:=Zh f12;have Hf13:=Zh f13;have Hf15:=Zh f15;have Hf17:=Zh f17;have Hf9:=Zh f9;have Hf10:=Zh f10;have Hf19:=Zh f19;have Hf20:=Zh f20;have Hc1:=Zh c1;have Hc2:=Zh c2;have Hc3:=Zh c3;have Hc4:=Zh c4;have Hi2:=Zh i2;have Hi5:=Zh i5;have Hi8:=Zh i8;have Hi11:=Zh i11;have Hi14:=Zh i14;have Hi16:=Zh i16;have Hi18:=Zh i18;clear f0 f1 f3 f4 f6 f7 f12 f13 f15 f17 f9 f10 f19 f20 c1 c2 c3 c4 i2 i5 i8 i11 i14 i16 i18
   go_wp2
   exact⟨b,x0,_,x7,x8,x9,x10,x11,x12,_,x14,x15,x16,x17,x18,rfl,Ek hb e2 hk h1 h2 h3 h4,fun _=>⟨m,rfl,e2,hm2.congr (I3 (by simp[A1]) (by simp[A1]))⟩,
    Hf1.out,
    Hf3.out,
    Hf4.out,
    Hf6.out,
    Hf7.out,
    Hf12.out,
    Hf13.out,
    Hf15.out,
    Hf17.out,
    fun h=>by obtain⟨q1,q2,q3,q4⟩:=Hf9.out h;exact⟨q1,q2,Cj q3 (hk b (Cp E3.out q3)),Cj q4 (hk (b+1) (Cp E3.out q4))⟩,
    fun _=>rfl,
    Hf19.out,
    Hf20.out,
    fun _=>by simpa[A3] using p10,
    Hc2.out,
    Hc3.out,
    Hc4.out,
    Hi2.out,
    Hi5.out,
    Hi8.out,
    fun _=>by simpa[A3] using p0,
    Hi14.out,
    Hi16.out,
    Hi18.out⟩
  ·rintro d a w hd hdep ⟨b,x0,x6,x7,x8,x9,x10,x11,x12,x13,x14,x15,x16,x17,x18,rfl,hb,f0,f1,f3,f4,f6,f7,f12,f13,f15,f17,f9,f10,f19,f20,c1,c2,c3,c4,i2,i5,i8,i11,i14,i16,i18⟩
   have hc:=(hb.cell (p:=⟨n+1+1,0,none⟩) hn2).trans hcell
   have Hf0:=Zh f0;have Hf1:=Zh f1;have Hf3:=Zh f3;have Hf4:=Zh f4;have Hf6:=Zh f6;have Hf7:=Zh f7;have Hf12:=Zh f12;have Hf13:=Zh f13;have Hf15:=Zh f15;have Hf17:=Zh f17;have Hf9:=Zh f9;have Hf10:=Zh f10;have Hf19:=Zh f19;have Hf20:=Zh f20;have Hc1:=Zh c1;have Hc2:=Zh c2;have Hc3:=Zh c3;have Hc4:=Zh c4;have Hi2:=Zh i2;have Hi5:=Zh i5;have Hi8:=Zh i8;have Hi11:=Zh i11;have Hi14:=Zh i14;have Hi16:=Zh i16;have Hi18:=Zh i18;clear f0 f1 f3 f4 f6 f7 f12 f13 f15 f17 f9 f10 f19 f20 c1 c2 c3 c4 i2 i5 i8 i11 i14 i16 i18
   go_wp2
   exact⟨b,x0,x6,x7,x8,x9,x10,x11,x12,x13,_,x15,x16,x17,x18,rfl,hb,fun h=>by obtain⟨m,e1,e2,e3⟩:=Hf0.out h;exact⟨m,e1,e2,e3.congr (De (by simp[A1]))⟩,
    Hf1.out,
    Hf3.out,
    Hf4.out,
    Hf6.out,
    Hf7.out,
    fun _=>rfl,
    Hf13.out,
    Hf15.out,
    Hf17.out,
    Hf9.out,
    Hf10.out,
    Hf19.out,
    Hf20.out,
    Hc1.out,
    Hc2.out,
    Hc3.out,
    Hc4.out,
    Hi2.out,
    Hi5.out,
    Hi8.out,
    Hi11.out,
    Hi14.out,
    Hi16.out,
    Hi18.out⟩
  ·rintro d a w hd hdep ⟨b,x0,x6,x7,x8,x9,x10,x11,x12,x13,x14,x15,x16,x17,x18,rfl,hb,f0,f1,f3,f4,f6,f7,f12,f13,f15,f17,f9,f10,f19,f20,c1,c2,c3,c4,i2,i5,i8,i11,i14,i16,i18⟩
   have p12:d 12=true:=hdep ⟨12,.data⟩ (by simp) rfl
   have g:=f12 p12
   subst g
   have Hf0:=Zh f0;have Hf1:=Zh f1;have Hf3:=Zh f3;have Hf4:=Zh f4;have Hf6:=Zh f6;have Hf7:=Zh f7;have Hf12:=Zh f12;have Hf13:=Zh f13;have Hf15:=Zh f15;have Hf17:=Zh f17;have Hf9:=Zh f9;have Hf10:=Zh f10;have Hf19:=Zh f19;have Hf20:=Zh f20;have Hc1:=Zh c1;have Hc2:=Zh c2;have Hc3:=Zh c3;have Hc4:=Zh c4;have Hi2:=Zh i2;have Hi5:=Zh i5;have Hi8:=Zh i8;have Hi11:=Zh i11;have Hi14:=Zh i14;have Hi16:=Zh i16;have Hi18:=Zh i18;clear f0 f1 f3 f4 f6 f7 f12 f13 f15 f17 f9 f10 f19 f20 c1 c2 c3 c4 i2 i5 i8 i11 i14 i16 i18
   go_wp2
   exact⟨b,x0,x6,x7,x8,x9,x10,x11,x12,x13,_,_,x16,x17,x18,rfl,hb,fun h=>by obtain⟨m,e1,e2,e3⟩:=Hf0.out h;exact⟨m,e1,e2,e3.congr (De (by simp[A1]))⟩,
    Hf1.out,
    Hf3.out,
    Hf4.out,
    Hf6.out,
    Hf7.out,
    fun _=>rfl,
    fun _=>rfl,
    Hf15.out,
    Hf17.out,
    Hf9.out,
    Hf10.out,
    Hf19.out,
    Hf20.out,
    Hc1.out,
    Hc2.out,
    Hc3.out,
    Hc4.out,
    Hi2.out,
    Hi5.out,
    Hi8.out,
    Hi11.out,
    Hi14.out,
    Hi16.out,
    Hi18.out⟩
  ·rintro d a w hd hdep ⟨b,x0,x6,x7,x8,x9,x10,x11,x12,x13,x14,x15,x16,x17,x18,rfl,hb,f0,f1,f3,f4,f6,f7,f12,f13,f15,f17,f9,f10,f19,f20,c1,c2,c3,c4,i2,i5,i8,i11,i14,i16,i18⟩
   have p0:d 0=true:=hdep ⟨0,.data⟩ (by simp) rfl
   have p13:d 13=true:=hdep ⟨13,.data⟩ (by simp) rfl
   obtain⟨m,e1,e2,e3⟩:=f0 p0
   have g:=f13 p13
   subst g;subst e1
   obtain⟨w2,hr,hm2,hk,h1,h2,h3,h4⟩:=e3.insert (P:=Tryz.prog) Tryz.underlying223 Tryz.underlying3 (k:=26) (.agg #[(.func (.func 217) #[] #[.pointer (some ⟨n,0,none⟩),.pointer (some ⟨n+1,0,none⟩)]),.int .i64 1]) (Hk (o:=14) (by simp[A1]) hd)
   have E3:=Zh e3;clear e3
   have Hf0:=Zh f0;have Hf1:=Zh f1;have Hf3:=Zh f3;have Hf4:=Zh f4;have Hf6:=Zh f6;have Hf7:=Zh f7;have Hf12:=Zh f12;have Hf13:=Zh f13;have Hf15:=Zh f15;have Hf17:=Zh f17;have Hf9:=Zh f9;have Hf10:=Zh f10;have Hf19:=Zh f19;have Hf20:=Zh f20;have Hc1:=Zh c1;have Hc2:=Zh c2;have Hc3:=Zh c3;have Hc4:=Zh c4;have Hi2:=Zh i2;have Hi5:=Zh i5;have Hi8:=Zh i8;have Hi11:=Zh i11;have Hi14:=Zh i14;have Hi16:=Zh i16;have Hi18:=Zh i18;clear f0 f1 f3 f4 f6 f7 f12 f13 f15 f17 f9 f10 f19 f20 c1 c2 c3 c4 i2 i5 i8 i11 i14 i16 i18
   go_wp2
   exact⟨b,x0,_,x7,x8,x9,x10,x11,x12,x13,x14,_,x16,x17,x18,rfl,Ek hb e2 hk h1 h2 h3 h4,fun _=>⟨m,rfl,e2,hm2.congr (I3 (by simp[A1]) (by simp[A1]))⟩,
    Hf1.out,
    Hf3.out,
    Hf4.out,
    Hf6.out,
    Hf7.out,
    Hf12.out,
    fun _=>rfl,
    Hf15.out,
    Hf17.out,
    fun h=>by obtain⟨q1,q2,q3,q4⟩:=Hf9.out h;exact⟨q1,q2,Cj q3 (hk b (Cp E3.out q3)),Cj q4 (hk (b+1) (Cp E3.out q4))⟩,
    Hf10.out,
    Hf19.out,
    Hf20.out,
    Hc1.out,
    Hc2.out,
    Hc3.out,
    Hc4.out,
    Hi2.out,
    Hi5.out,
    Hi8.out,
    Hi11.out,
    fun _=>by simpa[A3] using p0,
    Hi16.out,
    Hi18.out⟩
  ·rintro d a w hd hdep ⟨b,x0,x6,x7,x8,x9,x10,x11,x12,x13,x14,x15,x16,x17,x18,rfl,hb,f0,f1,f3,f4,f6,f7,f12,f13,f15,f17,f9,f10,f19,f20,c1,c2,c3,c4,i2,i5,i8,i11,i14,i16,i18⟩
   have Hf0:=Zh f0;have Hf1:=Zh f1;have Hf3:=Zh f3;have Hf4:=Zh f4;have Hf6:=Zh f6;have Hf7:=Zh f7;have Hf12:=Zh f12;have Hf13:=Zh f13;have Hf15:=Zh f15;have Hf17:=Zh f17;have Hf9:=Zh f9;have Hf10:=Zh f10;have Hf19:=Zh f19;have Hf20:=Zh f20;have Hc1:=Zh c1;have Hc2:=Zh c2;have Hc3:=Zh c3;have Hc4:=Zh c4;have Hi2:=Zh i2;have Hi5:=Zh i5;have Hi8:=Zh i8;have Hi11:=Zh i11;have Hi14:=Zh i14;have Hi16:=Zh i16;have Hi18:=Zh i18;clear f0 f1 f3 f4 f6 f7 f12 f13 f15 f17 f9 f10 f19 f20 c1 c2 c3 c4 i2 i5 i8 i11 i14 i16 i18
   go_wp2
   exact⟨b,x0,x6,x7,x8,x9,x10,x11,x12,x13,x14,x15,_,x17,x18,rfl,hb,fun h=>by obtain⟨m,e1,e2,e3⟩:=Hf0.out h;exact⟨m,e1,e2,e3.congr (De (by simp[A1]))⟩,
    Hf1.out,
    Hf3.out,
    Hf4.out,
    Hf6.out,
    Hf7.out,
    Hf12.out,
    Hf13.out,
    fun _=>rfl,
    Hf17.out,
    Hf9.out,
    Hf10.out,
    Hf19.out,
    Hf20.out,
    Hc1.out,
    Hc2.out,
    Hc3.out,
    Hc4.out,
    Hi2.out,
    Hi5.out,
    Hi8.out,
    Hi11.out,
    Hi14.out,
    Hi16.out,
    Hi18.out⟩
  ·rintro d a w hd hdep ⟨b,x0,x6,x7,x8,x9,x10,x11,x12,x13,x14,x15,x16,x17,x18,rfl,hb,f0,f1,f3,f4,f6,f7,f12,f13,f15,f17,f9,f10,f19,f20,c1,c2,c3,c4,i2,i5,i8,i11,i14,i16,i18⟩
   have p0:d 0=true:=hdep ⟨0,.data⟩ (by simp) rfl
   have p15:d 15=true:=hdep ⟨15,.data⟩ (by simp) rfl
   obtain⟨m,e1,e2,e3⟩:=f0 p0
   have g:=f15 p15
   subst g;subst e1
   obtain⟨w2,hr,hm2,hk,h1,h2,h3,h4⟩:=e3.insert (P:=Tryz.prog) Tryz.underlying223 Tryz.underlying3 (k:=28) (.agg #[(.func (.func 192) #[] #[]),.int .i64 4]) (Hk (o:=16) (by simp[A1]) hd)
   have E3:=Zh e3;clear e3
   have Hf0:=Zh f0;have Hf1:=Zh f1;have Hf3:=Zh f3;have Hf4:=Zh f4;have Hf6:=Zh f6;have Hf7:=Zh f7;have Hf12:=Zh f12;have Hf13:=Zh f13;have Hf15:=Zh f15;have Hf17:=Zh f17;have Hf9:=Zh f9;have Hf10:=Zh f10;have Hf19:=Zh f19;have Hf20:=Zh f20;have Hc1:=Zh c1;have Hc2:=Zh c2;have Hc3:=Zh c3;have Hc4:=Zh c4;have Hi2:=Zh i2;have Hi5:=Zh i5;have Hi8:=Zh i8;have Hi11:=Zh i11;have Hi14:=Zh i14;have Hi16:=Zh i16;have Hi18:=Zh i18;clear f0 f1 f3 f4 f6 f7 f12 f13 f15 f17 f9 f10 f19 f20 c1 c2 c3 c4 i2 i5 i8 i11 i14 i16 i18
   go_wp2
   exact⟨b,x0,_,x7,x8,x9,x10,x11,x12,x13,x14,x15,_,x17,x18,rfl,Ek hb e2 hk h1 h2 h3 h4,fun _=>⟨m,rfl,e2,hm2.congr (I3 (by simp[A1]) (by simp[A1]))⟩,
    Hf1.out,
    Hf3.out,
    Hf4.out,
    Hf6.out,
    Hf7.out,
    Hf12.out,
    Hf13.out,
    fun _=>rfl,
    Hf17.out,
    fun h=>by obtain⟨q1,q2,q3,q4⟩:=Hf9.out h;exact⟨q1,q2,Cj q3 (hk b (Cp E3.out q3)),Cj q4 (hk (b+1) (Cp E3.out q4))⟩,
    Hf10.out,
    Hf19.out,
    Hf20.out,
    Hc1.out,
    Hc2.out,
    Hc3.out,
    Hc4.out,
    Hi2.out,
    Hi5.out,
    Hi8.out,
    Hi11.out,
    Hi14.out,
    fun _=>by simpa[A3] using p0,
    Hi18.out⟩
  ·rintro d a w hd hdep ⟨b,x0,x6,x7,x8,x9,x10,x11,x12,x13,x14,x15,x16,x17,x18,rfl,hb,f0,f1,f3,f4,f6,f7,f12,f13,f15,f17,f9,f10,f19,f20,c1,c2,c3,c4,i2,i5,i8,i11,i14,i16,i18⟩
   have Hf0:=Zh f0;have Hf1:=Zh f1;have Hf3:=Zh f3;have Hf4:=Zh f4;have Hf6:=Zh f6;have Hf7:=Zh f7;have Hf12:=Zh f12;have Hf13:=Zh f13;have Hf15:=Zh f15;have Hf17:=Zh f17;have Hf9:=Zh f9;have Hf10:=Zh f10;have Hf19:=Zh f19;have Hf20:=Zh f20;have Hc1:=Zh c1;have Hc2:=Zh c2;have Hc3:=Zh c3;have Hc4:=Zh c4;have Hi2:=Zh i2;have Hi5:=Zh i5;have Hi8:=Zh i8;have Hi11:=Zh i11;have Hi14:=Zh i14;have Hi16:=Zh i16;have Hi18:=Zh i18;clear f0 f1 f3 f4 f6 f7 f12 f13 f15 f17 f9 f10 f19 f20 c1 c2 c3 c4 i2 i5 i8 i11 i14 i16 i18
   go_wp2
   exact⟨b,x0,x6,x7,x8,x9,x10,x11,x12,x13,x14,x15,x16,_,x18,rfl,hb,fun h=>by obtain⟨m,e1,e2,e3⟩:=Hf0.out h;exact⟨m,e1,e2,e3.congr (De (by simp[A1]))⟩,
    Hf1.out,
    Hf3.out,
    Hf4.out,
    Hf6.out,
    Hf7.out,
    Hf12.out,
    Hf13.out,
    Hf15.out,
    fun _=>rfl,
    Hf9.out,
    Hf10.out,
    Hf19.out,
    Hf20.out,
    Hc1.out,
    Hc2.out,
    Hc3.out,
    Hc4.out,
    Hi2.out,
    Hi5.out,
    Hi8.out,
    Hi11.out,
    Hi14.out,
    Hi16.out,
    Hi18.out⟩
  ·rintro d a w hd hdep ⟨b,x0,x6,x7,x8,x9,x10,x11,x12,x13,x14,x15,x16,x17,x18,rfl,hb,f0,f1,f3,f4,f6,f7,f12,f13,f15,f17,f9,f10,f19,f20,c1,c2,c3,c4,i2,i5,i8,i11,i14,i16,i18⟩
   have p0:d 0=true:=hdep ⟨0,.data⟩ (by simp) rfl
   have p17:d 17=true:=hdep ⟨17,.data⟩ (by simp) rfl
   obtain⟨m,e1,e2,e3⟩:=f0 p0
   have g:=f17 p17
   subst g;subst e1
   obtain⟨w2,hr,hm2,hk,h1,h2,h3,h4⟩:=e3.insert (P:=Tryz.prog) Tryz.underlying223 Tryz.underlying3 (k:=30) (.agg #[(.func (.func 193) #[] #[]),.int .i64 2]) (Hk (o:=18) (by simp[A1]) hd)
   have E3:=Zh e3;clear e3
   have Hf0:=Zh f0;have Hf1:=Zh f1;have Hf3:=Zh f3;have Hf4:=Zh f4;have Hf6:=Zh f6;have Hf7:=Zh f7;have Hf12:=Zh f12;have Hf13:=Zh f13;have Hf15:=Zh f15;have Hf17:=Zh f17;have Hf9:=Zh f9;have Hf10:=Zh f10;have Hf19:=Zh f19;have Hf20:=Zh f20;have Hc1:=Zh c1;have Hc2:=Zh c2;have Hc3:=Zh c3;have Hc4:=Zh c4;have Hi2:=Zh i2;have Hi5:=Zh i5;have Hi8:=Zh i8;have Hi11:=Zh i11;have Hi14:=Zh i14;have Hi16:=Zh i16;have Hi18:=Zh i18;clear f0 f1 f3 f4 f6 f7 f12 f13 f15 f17 f9 f10 f19 f20 c1 c2 c3 c4 i2 i5 i8 i11 i14 i16 i18
   go_wp2
   exact⟨b,x0,_,x7,x8,x9,x10,x11,x12,x13,x14,x15,x16,_,x18,rfl,Ek hb e2 hk h1 h2 h3 h4,fun _=>⟨m,rfl,e2,hm2.congr (I3 (by simp[A1]) (by simp[A1]))⟩,
    Hf1.out,
    Hf3.out,
    Hf4.out,
    Hf6.out,
    Hf7.out,
    Hf12.out,
    Hf13.out,
    Hf15.out,
    fun _=>rfl,
    fun h=>by obtain⟨q1,q2,q3,q4⟩:=Hf9.out h;exact⟨q1,q2,Cj q3 (hk b (Cp E3.out q3)),Cj q4 (hk (b+1) (Cp E3.out q4))⟩,
    Hf10.out,
    Hf19.out,
    Hf20.out,
    Hc1.out,
    Hc2.out,
    Hc3.out,
    Hc4.out,
    Hi2.out,
    Hi5.out,
    Hi8.out,
    Hi11.out,
    Hi14.out,
    Hi16.out,
    fun _=>by simpa[A3] using p0⟩
  ·rintro d a w hd hdep ⟨b,x0,x6,x7,x8,x9,x10,x11,x12,x13,x14,x15,x16,x17,x18,rfl,hb,f0,f1,f3,f4,f6,f7,f12,f13,f15,f17,f9,f10,f19,f20,c1,c2,c3,c4,i2,i5,i8,i11,i14,i16,i18⟩
   have p0:d 0=true:=hdep ⟨0,.data⟩ (by simp) rfl
   have Hf0:=Zh f0;have Hf1:=Zh f1;have Hf3:=Zh f3;have Hf4:=Zh f4;have Hf6:=Zh f6;have Hf7:=Zh f7;have Hf12:=Zh f12;have Hf13:=Zh f13;have Hf15:=Zh f15;have Hf17:=Zh f17;have Hf9:=Zh f9;have Hf10:=Zh f10;have Hf19:=Zh f19;have Hf20:=Zh f20;have Hc1:=Zh c1;have Hc2:=Zh c2;have Hc3:=Zh c3;have Hc4:=Zh c4;have Hi2:=Zh i2;have Hi5:=Zh i5;have Hi8:=Zh i8;have Hi11:=Zh i11;have Hi14:=Zh i14;have Hi16:=Zh i16;have Hi18:=Zh i18;clear f0 f1 f3 f4 f6 f7 f12 f13 f15 f17 f9 f10 f19 f20 c1 c2 c3 c4 i2 i5 i8 i11 i14 i16 i18
   go_wp2
   exact⟨b,x0,x6,x7,x8,x9,x10,x11,x12,x13,x14,x15,x16,x17,_,rfl,hb,fun h=>by obtain⟨m,e1,e2,e3⟩:=Hf0.out h;exact⟨m,e1,e2,e3.congr (De (by simp[A1]))⟩,
    Hf1.out,
    Hf3.out,
    Hf4.out,
    Hf6.out,
    Hf7.out,
    Hf12.out,
    Hf13.out,
    Hf15.out,
    Hf17.out,
    Hf9.out,
    Hf10.out,
    fun _=>rfl,
    Hf20.out,
    Hc1.out,
    Hc2.out,
    fun _=>by simpa[A3] using p0,
    Hc4.out,
    Hi2.out,
    Hi5.out,
    Hi8.out,
    Hi11.out,
    Hi14.out,
    Hi16.out,
    Hi18.out⟩
  ·rintro d a w hd hdep ⟨b,x0,x6,x7,x8,x9,x10,x11,x12,x13,x14,x15,x16,x17,x18,rfl,hb,f0,f1,f3,f4,f6,f7,f12,f13,f15,f17,f9,f10,f19,f20,c1,c2,c3,c4,i2,i5,i8,i11,i14,i16,i18⟩
   have p19:d 19=true:=hdep ⟨19,.data⟩ (by simp) rfl
   have g:=f19 p19
   subst g
   have Hf0:=Zh f0;have Hf1:=Zh f1;have Hf3:=Zh f3;have Hf4:=Zh f4;have Hf6:=Zh f6;have Hf7:=Zh f7;have Hf12:=Zh f12;have Hf13:=Zh f13;have Hf15:=Zh f15;have Hf17:=Zh f17;have Hf9:=Zh f9;have Hf10:=Zh f10;have Hf19:=Zh f19;have Hf20:=Zh f20;have Hc1:=Zh c1;have Hc2:=Zh c2;have Hc3:=Zh c3;have Hc4:=Zh c4;have Hi2:=Zh i2;have Hi5:=Zh i5;have Hi8:=Zh i8;have Hi11:=Zh i11;have Hi14:=Zh i14;have Hi16:=Zh i16;have Hi18:=Zh i18;clear f0 f1 f3 f4 f6 f7 f12 f13 f15 f17 f9 f10 f19 f20 c1 c2 c3 c4 i2 i5 i8 i11 i14 i16 i18
   go_wp2
   exact⟨b,_,_,x7,x8,x9,x10,x11,x12,x13,x14,x15,x16,x17,_,rfl,hb,fun h=>by obtain⟨m,e1,e2,e3⟩:=Hf0.out h;exact⟨m,e1,e2,e3.congr (De (by simp[A1]))⟩,
    Hf1.out,
    Hf3.out,
    Hf4.out,
    Hf6.out,
    Hf7.out,
    Hf12.out,
    Hf13.out,
    Hf15.out,
    Hf17.out,
    Hf9.out,
    Hf10.out,
    fun _=>rfl,
    fun _=>rfl,
    Hc1.out,
    Hc2.out,
    Hc3.out,
    fun _=>by simpa[A3] using Hc3.out p19,
    Hi2.out,
    Hi5.out,
    Hi8.out,
    Hi11.out,
    Hi14.out,
    Hi16.out,
    Hi18.out⟩
end Go.Proofs.YtokmjjkbginodaaGreatDoor
