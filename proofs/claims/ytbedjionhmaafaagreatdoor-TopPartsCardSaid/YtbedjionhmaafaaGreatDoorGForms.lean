/- GForms: the texts Forms, one behind the other. No condition but what each lemma says. -/
import Derived.Test.YtbedjionhmaafaaGreatDoorGRegion
import Derived.Test.YtbedjionhmaafaaGreatDoorGMap
import Derived.Test.YtbedjionhmaafaaGreatDoorGClos
set_option linter.all false
namespace Go.Proofs.YtbedjionhmaafaaGreatDoor
open Go.RowKit
variable {w w2:World} {u x:Value} {b o B:Nat} {kv:List (Nat×Int×Value)} {d:Nat→Bool}
theorem Pk {w':World} {a:Addr} (h:w.cell? a=some u) (c:Below w.heap.size w w'):w'.cell? a=some u:=by
 rw[c.cell (G4 h)];exact h
theorem Yk {m:Nat} {R:Int→Value→Prop} (h:Ig w m R) (e:w.cell? ⟨b,o,none⟩=some u):b≠m:=by
 rintro rfl
 obtain⟨f,c,a,_⟩:=h
 simp[World.cell?,a] at e
theorem Mk (a:w.cell? ⟨b,o,none⟩=some u) (c:w2.heap[b]?=w.heap[b]?):w2.cell? ⟨b,o,none⟩=some u:=by
 grind [World.cell?_of_block]
def Ry (kv:List (Nat×Int×Value)) (d:Nat→Bool):Int→Value→Prop:=fun k v=>∃e∈kv,d e.1=true∧k=e.2.1∧v=e.2.2
theorem Ol {f:Int} {a:Value} (h:∀e∈kv,e.1=o→e.2=(f,a)) (m:(o,f,a)∈kv) (k:Int) (v:Value):
 (Ry kv d k v∨(k=f∧v=a))↔Ry kv (Io d o) k v:=by
 constructor
 ·rintro(⟨e,g,j,i⟩|⟨rfl,rfl⟩)
  ·exact⟨e,g,by grind [Io],i⟩
  ·exact⟨_,m,by simp[Io],rfl,rfl⟩
 ·rintro⟨e,g,j,i,l⟩
  by_cases c:e.1=o
  ·grind
  ·left;exact⟨e,g,by simpa[Io,c] using j,i,l⟩
theorem Z6 (h:∀e∈kv,e.1≠o) (k:Int) (v:Value):Ry kv d k v↔Ry kv (Io d o) k v:=by
 grind [Ry,Is]
theorem DA (h:∀e∈kv,d e.1=false) (k:Int) (v:Value):¬Ry kv d k v:=by
 rintro⟨e,c,a,_⟩;rw[h e c] at a;cases a
theorem Ml {c:Int} (h:∀e∈kv,e.2.1=c→e.1=o) (i:d o=false) (v:Value):¬Ry kv d c v:=by
 rintro⟨e,f,a,g,_⟩;rw[h e f g.symm,i] at a;cases a
def Fg (n b:Nat):List (Nat×Int×Value):=[(2,12,(.agg #[(.func (.func 423) #[] #[]),.int .i64 0])),(5,19,(.agg #[(.func (.func 419) #[] #[]),.int .i64 1])),(8,20,(.agg #[(.func (.func 422) #[] #[.pointer (some ⟨n+1+1,0,none⟩)]),.int .i64 1])),(11,22,(.agg #[(.func (.func 431) #[] #[.pointer (some ⟨b,0,none⟩),.pointer (some ⟨b+1,0,none⟩)]),.int .i64 1])),(14,26,(.agg #[(.func (.func 431) #[] #[.pointer (some ⟨n,0,none⟩),.pointer (some ⟨n+1,0,none⟩)]),.int .i64 1])),(16,28,(.agg #[(.func (.func 423) #[] #[]),.int .i64 4])),(18,30,(.agg #[(.func (.func 424) #[] #[]),.int .i64 2]))]
theorem DB (n b a:Nat) (d:Nat→Bool) (h:d 11=false) (k:Int) (v:Value):Ry (Fg n b) d k v↔Ry (Fg n a) d k v:=by
 unfold Ry Fg
 simp[h]
def ch (n:Nat) (w0:World) (d:Nat→Bool) (a:Act) (w:World):Prop:=
 ∃(b:Nat) (x0 x6 x7 x8 x9 x10 x11 x12 x13 x14 x15 x16 x17 x18:Value),a={tmps:=#[x0,(.func (.func 419) #[] #[]),(.pointer (some ⟨n+1+1,0,none⟩)),(.func (.func 422) #[] #[.pointer (some ⟨n+1+1,0,none⟩)]),(.func (.func 431) #[] #[.pointer (some ⟨n,0,none⟩),.pointer (some ⟨n+1,0,none⟩)]),(.func (.func 422) #[] #[.pointer (some ⟨n+1+1,0,none⟩)]),x6,x7,x8,x9,x10,x11,x12,x13,x14,x15,x16,x17,x18],defers:=[]}∧Below w0.heap.size w0 w∧
  (d 0=true→∃m,x6= .map (some m)∧w0.heap.size≤m∧Ig w m (Ry (Fg n b) d))∧
  (d 1=true→x7=(.agg #[(.func (.func 423) #[] #[]),.int .i64 0]))∧
  (d 3=true→x8=(.func (.func 419) #[] #[]))∧
  (d 4=true→x9=(.agg #[(.func (.func 419) #[] #[]),.int .i64 1]))∧
  (d 6=true→x10=(.func (.func 422) #[] #[.pointer (some ⟨n+1+1,0,none⟩)]))∧
  (d 7=true→x11=(.agg #[(.func (.func 422) #[] #[.pointer (some ⟨n+1+1,0,none⟩)]),.int .i64 1]))∧
  (d 12=true→x14=(.func (.func 431) #[] #[.pointer (some ⟨n,0,none⟩),.pointer (some ⟨n+1,0,none⟩)]))∧
  (d 13=true→x15=(.agg #[(.func (.func 431) #[] #[.pointer (some ⟨n,0,none⟩),.pointer (some ⟨n+1,0,none⟩)]),.int .i64 1]))∧
  (d 15=true→x16=(.agg #[(.func (.func 423) #[] #[]),.int .i64 4]))∧
  (d 17=true→x17=(.agg #[(.func (.func 424) #[] #[]),.int .i64 2]))∧
  (d 9=true→x12=(.func (.func 431) #[] #[.pointer (some ⟨b,0,none⟩),.pointer (some ⟨b+1,0,none⟩)])∧w0.heap.size≤b∧w.cell? ⟨b,0,none⟩=some (.int .i32 0)∧w.cell? ⟨b+1,0,none⟩=some (.int .i32 127))∧
  (d 10=true→x13=(.agg #[(.func (.func 431) #[] #[.pointer (some ⟨b,0,none⟩),.pointer (some ⟨b+1,0,none⟩)]),.int .i64 1]))∧
  (d 19=true→x18=x6)∧
  (d 20=true→x0=x6)∧
  (d 11=true→d 10=true)∧
  (d 10=true→d 9=true)∧
  (d 19=true→d 0=true)∧
  (d 20=true→d 0=true)∧
  (d 2=true→d 0=true)∧
  (d 5=true→d 0=true)∧
  (d 8=true→d 0=true)∧
  (d 11=true→d 0=true)∧
  (d 14=true→d 0=true)∧
  (d 16=true→d 0=true)∧
  (d 18=true→d 0=true)
theorem Yl (a b:Int) (w:World):
 Calls Tryz.prog 421 #[.int .i32 a,.int .i32 b] w fun e w'=>e= .returned (.func (.func 431) #[] #[.pointer (some ⟨w.heap.size,0,none⟩),.pointer (some ⟨w.heap.size+1,0,none⟩)])∧w'=(w.alloc (.cells #[.int .i32 a] 21)).alloc (.cells #[.int .i32 b] 21):=by
 have hmf:∀(fn:Fn) (first cap:Array Value) (w:World),(Instr.makeFunc fn first cap).run Tryz.prog w= .ok (.func fn first cap) w:=fun _ _ _ _=>rfl
 go_enter Tryz.func421,Tryz.ntmps421
 go_wp2
 go_ret
 exact⟨rfl,rfl⟩
theorem TO {n:Nat} (h:d 0=true→∃m,x= .map (some m)∧B≤m∧Ig w m (Ry (Fg n b) d)) (c:∀e∈Fg n b,e.1≠o) (g:Io d o 0=d 0):Io d o 0=true→∃m,x= .map (some m)∧B≤m∧Ig w m (Ry (Fg n b) (Io d o)):=fun i=>by
 obtain⟨m,f,j,a⟩:=h (g▸i)
 exact⟨m,f,j,a.congr (Z6 c)⟩
theorem TP {m:Nat} {R:Int→Value→Prop} {e:Prop} {v:Value} (E:Hid (Ig w m R)) (h:Hid (e→x=u∧B≤b∧w.cell? ⟨b,0,none⟩=some (.int .i32 0)∧w.cell? ⟨b+1,0,none⟩=some v)) (a:∀k,k≠m→w2.heap[k]?=w.heap[k]?):e→x=u∧B≤b∧w2.cell? ⟨b,0,none⟩=some (.int .i32 0)∧w2.cell? ⟨b+1,0,none⟩=some v:=fun j=>by
 obtain⟨g,i,f,c⟩:=h.out j
 exact⟨g,i,Mk f (a b (Yk E.out f)),Mk c (a (b+1) (Yk E.out c))⟩
theorem ji {e:Prop} {v:Value} (h:Hid (e→x=u∧B≤b∧w.cell? ⟨b,0,none⟩=some (.int .i32 0)∧w.cell? ⟨b+1,0,none⟩=some v)) (j:Below w.heap.size w w2):e→x=u∧B≤b∧w2.cell? ⟨b,0,none⟩=some (.int .i32 0)∧w2.cell? ⟨b+1,0,none⟩=some v:=fun a=>by
 obtain⟨f,c,i,g⟩:=h.out a
 grind [Pk]
theorem fQ {p:Prop} (h:p:=by(repeat'(first|exact Hid.out (by assumption)|refine A1 ?_ ?_|exact fun _=>rfl|exact fun _=>by assumption|exact fun _=>⟨rfl,by assumption,by assumption,by assumption⟩|exact TO (Hid.out (by assumption)) (by simp[Fg]) rfl|exact TP (by assumption) (by assumption) (by assumption)|exact ji (by assumption) ((Bq _ _).alloc (At _) _)|exact fun _=>⟨rfl,Below.size (by assumption),Ab,Ab⟩|(intro h;exfalso;revert h;simp[Io, *]<;>fail)));done):p:=h
def Jf (w:World) (m n b:Nat):Prop:=
 Ig w m (Ry (Fg n b) fun _=>true)∧w.cell? ⟨n+1+1,0,none⟩=some (.func (.func 431) #[] #[.pointer (some ⟨n,0,none⟩),.pointer (some ⟨n+1,0,none⟩)])∧w.cell? ⟨n,0,none⟩=some (.int .i32 32)∧w.cell? ⟨n+1,0,none⟩=some (.int .i32 126)∧
  w.cell? ⟨b,0,none⟩=some (.int .i32 0)∧w.cell? ⟨b+1,0,none⟩=some (.int .i32 127)
def DC (w:World) (e:Ending) (w':World):Prop:=
 ∃m n b,e= .returned (.map (some m))∧Jf w' m n b∧(w.heap.size≤m∧w.heap.size≤n∧w.heap.size≤b)∧Below w.heap.size w w'
set_option maxRecDepth 100000 in
set_option maxHeartbeats 4000000 in
theorem Oe (w:World):
 Calls Tryz.prog 409 #[] w (DC w):=by
 have hmf:∀(fn:Fn) (first cap:Array Value) (w:World),(Instr.makeFunc fn first cap).run Tryz.prog w= .ok (.func fn first cap) w:=fun _ _ _ _=>rfl
 have hmm:=@run_makeMap Tryz.prog
 go_enter Tryz.func409,Tryz.ntmps409
 go_wp2_with (go_at_call 421;refine(Yl _ _ _).mono ?_;rintro e w' ⟨rfl,rfl⟩)
 obtain⟨n,hn⟩:∃n,w.heap.size=n:=⟨_,rfl⟩
 obtain⟨w0,hw0⟩:∃w0,((w.alloc (.cells #[.int .i32 32] 21)).alloc (.cells #[.int .i32 126] 21)).alloc (.cells #[.func (.func 431) #[] #[.pointer (some ⟨w.heap.size,0,none⟩),.pointer (some ⟨w.heap.size+1,0,none⟩)]] 593)=w0:=⟨_,rfl⟩
 rw[hw0]
 simp only[hn]
 have hcell:w0.cell? ⟨n+1+1,0,none⟩=some (.func (.func 431) #[] #[.pointer (some ⟨n,0,none⟩),.pointer (some ⟨n+1,0,none⟩)]):=by
  subst hn;subst hw0
  have h:=cell_of_row _ _ 0 _ _ _ (heap_alloc_new ((w.alloc (.cells #[.int .i32 32] 21)).alloc (.cells #[.int .i32 126] 21)) (.cells #[.func (.func 431) #[] #[.pointer (some ⟨w.heap.size,0,none⟩),.pointer (some ⟨w.heap.size+1,0,none⟩)]] 593))
  simpa using h
 have hn2:n+1+1<w0.heap.size:=by subst hn;subst hw0;simp
 have HW:=Zh hw0;clear hw0
 refine Nd Ac Ac (ch n w0) ?first ?steps ?last
 case first=>
  refine⟨0,_,_,_,_,_,_,_,_,_,_,_,_,_,_,rfl,(Bq _ _).drew,by grind⟩
 case last=>
  rintro a w2 ⟨b,x0,x6,x7,x8,x9,x10,x11,x12,x13,x14,x15,x16,x17,x18,rfl,hb,f0,f1,f3,f4,f6,f7,f12,f13,f15,f17,f9,f10,f19,f20,c1,c2,c3,c4,i2,i5,i8,i11,i14,i16,i18⟩
  have g:=f20 rfl;subst g
  obtain⟨m,e1,e2,e3⟩:=f0 rfl
  obtain⟨q1,q2,q3,q4⟩:=f9 rfl
  subst e1
  have hm:Ig w2 m (Ry (Fg n b) fun _=>true):=e3.congr fun k v=>by
   unfold Ry Fg;simp
  have h0:w0.cell? ⟨n,0,none⟩=some (.int .i32 32)∧w0.cell? ⟨n+1,0,none⟩=some (.int .i32 126):=by
   have e:=HW.out
   have c1:(w.alloc (.cells #[.int .i32 32] 21)).cell? ⟨w.heap.size,0,none⟩=some (.int .i32 32):=by rw[cell_of_row _ _ 0 _ _ _ (heap_alloc_new w _)];rfl
   have c2:((w.alloc (.cells #[.int .i32 32] 21)).alloc (.cells #[.int .i32 126] 21)).cell? ⟨(w.alloc (.cells #[.int .i32 32] 21)).heap.size,0,none⟩=some (.int .i32 126):=by rw[cell_of_row _ _ 0 _ _ _ (heap_alloc_new (w.alloc _) _)];rfl
   rw[←e,←hn]
   have c3:=Pk c1 (((Bq _ _).alloc (At _) (.cells #[.int .i32 126] 21)).alloc Ab (.cells #[.func (.func 431) #[] #[.pointer (some ⟨w.heap.size,0,none⟩),.pointer (some ⟨w.heap.size+1,0,none⟩)]] 593))
   have c4:=Pk c2 ((Bq _ _).alloc (At _) (.cells #[.func (.func 431) #[] #[.pointer (some ⟨w.heap.size,0,none⟩),.pointer (some ⟨w.heap.size+1,0,none⟩)]] 593))
   rw[Dj] at c4
   exact⟨c3,c4⟩
  have hbw:Below w.heap.size w w0:=by
   have e:=HW.out;rw[←e];exact(((Bq _ _).alloc (At _) _).alloc Ab _).alloc Af _
  have hF:Jf w2 m n b:=⟨hm,(hb.cell (p:=⟨n+1+1,0,none⟩) hn2).trans hcell,(hb.cell (p:=⟨n,0,none⟩) (by show n<_;omega)).trans h0.1,(hb.cell (p:=⟨n+1,0,none⟩) (by show n+1<_;omega)).trans h0.2,q3,q4⟩
  have HF:=Zh hF
  have hml:=e2;have hbl:=q2
  clear f0 f9 e3 hm hF q1 q2 q3 q4 f1 f3 f4 f6 f7 f12 f13 f15 f17 f10 f19 c1 c2 c3 c4 i2 i5 i8 i11 i14 i16 i18
  go_wp2
  go_ret
  refine⟨m,n,b,rfl,HF.out,⟨Bi hbw.size hml,Aa,Bi hbw.size hbl⟩,?_⟩
  exact hbw.trans (hb.mono hbw.size)
 case steps=>
  refine⟨?_,?_,?_,?_,?_,?_,?_,?_,?_,?_,?_,?_,?_,?_,?_,?_,?_,?_,?_,?_,?_,trivial⟩
  all_goals rintro d a w hd hdep ⟨b,x0,x6,x7,x8,x9,x10,x11,x12,x13,x14,x15,x16,x17,x18,rfl,hb,f0,f1,f3,f4,f6,f7,f12,f13,f15,f17,f9,f10,f19,f20,c1,c2,c3,c4,i2,i5,i8,i11,i14,i16,i18⟩
  all_goals(have H_f0:=Zh f0;have H_f1:=Zh f1;have H_f3:=Zh f3;have H_f4:=Zh f4;have H_f6:=Zh f6;have H_f7:=Zh f7;have H_f12:=Zh f12;have H_f13:=Zh f13;have H_f15:=Zh f15;have H_f17:=Zh f17;have H_f9:=Zh f9;have H_f10:=Zh f10;have H_f19:=Zh f19;have H_f20:=Zh f20;have H_c1:=Zh c1;have H_c2:=Zh c2;have H_c3:=Zh c3;have H_c4:=Zh c4;have H_i2:=Zh i2;have H_i5:=Zh i5;have H_i8:=Zh i8;have H_i11:=Zh i11;have H_i14:=Zh i14;have H_i16:=Zh i16;have H_i18:=Zh i18;clear f0 f1 f3 f4 f6 f7 f12 f13 f15 f17 f9 f10 f19 f20 c1 c2 c3 c4 i2 i5 i8 i11 i14 i16 i18)
  ·have z20:d 20=false:=by cases h:d 20 with|false=>rfl|true=>rw[H_c4.out h] at hd;cases hd
   have z19:d 19=false:=by cases h:d 19 with|false=>rfl|true=>rw[H_c3.out h] at hd;cases hd
   have z18:d 18=false:=by cases h:d 18 with|false=>rfl|true=>rw[H_i18.out h] at hd;cases hd
   have z16:d 16=false:=by cases h:d 16 with|false=>rfl|true=>rw[H_i16.out h] at hd;cases hd
   have z14:d 14=false:=by cases h:d 14 with|false=>rfl|true=>rw[H_i14.out h] at hd;cases hd
   have z11:d 11=false:=by cases h:d 11 with|false=>rfl|true=>rw[H_i11.out h] at hd;cases hd
   have z8:d 8=false:=by cases h:d 8 with|false=>rfl|true=>rw[H_i8.out h] at hd;cases hd
   have z5:d 5=false:=by cases h:d 5 with|false=>rfl|true=>rw[H_i5.out h] at hd;cases hd
   have z2:d 2=false:=by cases h:d 2 with|false=>rfl|true=>rw[H_i2.out h] at hd;cases hd
   go_wp2
   exact⟨b,_,_,_,_,_,_,_,_,_,_,_,_,_,_,rfl,hb.alloc hb.size _,fun _=>⟨_,rfl,hb.size,(Z5 w).congr fun k v=>⟨False.elim,fun h=>DA (by simp[Fg,Io,z2,z5,z8,z11,z14,z16,z18]) k v h⟩⟩,fQ⟩
  ·go_wp2
   exact⟨b,_,_,_,_,_,_,_,_,_,_,_,_,_,_,rfl,hb,fQ⟩
  ·have p0:d 0=true:=hdep ⟨0,.data⟩ Ab rfl
   have p1:d 1=true:=hdep ⟨1,.data⟩ Ab rfl
   obtain⟨m,e1,e2,e3⟩:=H_f0.out p0
   have g:=H_f1.out p1
   subst g;subst e1
   obtain⟨w2,hr,hm2,hk,h1,h2,h3,h4⟩:=e3.insert (P:=Tryz.prog) Tryz.underlying596 Tryz.underlying3 (k:=12) (.agg #[(.func (.func 423) #[] #[]),.int .i64 0]) (Ml (o:=2) (by simp[Fg]) hd)
   have E3:=Zh e3;clear e3
   go_wp2
   exact⟨b,_,_,_,_,_,_,_,_,_,_,_,_,_,_,rfl,I6 hb e2 hk h1 h2 h3 h4,fun _=>⟨m,rfl,e2,hm2.congr (Ol (by simp[Fg]) (by simp[Fg]))⟩,fQ⟩
  ·go_wp2
   exact⟨b,_,_,_,_,_,_,_,_,_,_,_,_,_,_,rfl,hb,fQ⟩
  ·have p3:d 3=true:=hdep ⟨3,.data⟩ Ab rfl
   have g:=H_f3.out p3
   subst g
   go_wp2
   exact⟨b,_,_,_,_,_,_,_,_,_,_,_,_,_,_,rfl,hb,fQ⟩
  ·have p0:d 0=true:=hdep ⟨0,.data⟩ Ab rfl
   have p4:d 4=true:=hdep ⟨4,.data⟩ Ab rfl
   obtain⟨m,e1,e2,e3⟩:=H_f0.out p0
   have g:=H_f4.out p4
   subst g;subst e1
   obtain⟨w2,hr,hm2,hk,h1,h2,h3,h4⟩:=e3.insert (P:=Tryz.prog) Tryz.underlying596 Tryz.underlying3 (k:=19) (.agg #[(.func (.func 419) #[] #[]),.int .i64 1]) (Ml (o:=5) (by simp[Fg]) hd)
   have E3:=Zh e3;clear e3
   go_wp2
   exact⟨b,_,_,_,_,_,_,_,_,_,_,_,_,_,_,rfl,I6 hb e2 hk h1 h2 h3 h4,fun _=>⟨m,rfl,e2,hm2.congr (Ol (by simp[Fg]) (by simp[Fg]))⟩,fQ⟩
  ·go_wp2
   exact⟨b,_,_,_,_,_,_,_,_,_,_,_,_,_,_,rfl,hb,fQ⟩
  ·have p6:d 6=true:=hdep ⟨6,.data⟩ Ab rfl
   have g:=H_f6.out p6
   subst g
   go_wp2
   exact⟨b,_,_,_,_,_,_,_,_,_,_,_,_,_,_,rfl,hb,fQ⟩
  ·have p0:d 0=true:=hdep ⟨0,.data⟩ Ab rfl
   have p7:d 7=true:=hdep ⟨7,.data⟩ Ab rfl
   obtain⟨m,e1,e2,e3⟩:=H_f0.out p0
   have g:=H_f7.out p7
   subst g;subst e1
   obtain⟨w2,hr,hm2,hk,h1,h2,h3,h4⟩:=e3.insert (P:=Tryz.prog) Tryz.underlying596 Tryz.underlying3 (k:=20) (.agg #[(.func (.func 422) #[] #[.pointer (some ⟨n+1+1,0,none⟩)]),.int .i64 1]) (Ml (o:=8) (by simp[Fg]) hd)
   have E3:=Zh e3;clear e3
   go_wp2
   exact⟨b,_,_,_,_,_,_,_,_,_,_,_,_,_,_,rfl,I6 hb e2 hk h1 h2 h3 h4,fun _=>⟨m,rfl,e2,hm2.congr (Ol (by simp[Fg]) (by simp[Fg]))⟩,fQ⟩
  ·have n10:d 10=false:=by cases h:d 10 with|false=>rfl|true=>rw[H_c2.out h] at hd;cases hd
   have n11:d 11=false:=by cases h:d 11 with|false=>rfl|true=>rw[H_c1.out h] at n10;cases n10
   go_wp2_with (go_at_call 421;refine(Yl _ _ _).mono ?_;rintro e w' ⟨rfl,rfl⟩)
   exact⟨w.heap.size,_,_,_,_,_,_,_,_,_,_,_,_,_,_,rfl,(hb.alloc hb.size _).alloc (by have:=hb.size;simp;omega) _,fun h=>by obtain⟨m,e1,e2,e3⟩:=H_f0.out h;exact⟨m,e1,e2,(e3.keep ((((Bq w.heap.size w).alloc (At _) _).alloc Ab _).block m e3.lt)).congr fun k v=>(DB n b w.heap.size d n11 k v).trans (Z6 (by simp[Fg]) k v)⟩,fQ⟩
  ·have p9:d 9=true:=hdep ⟨9,.data⟩ Ab rfl
   obtain⟨g,g1,g2,g3⟩:=H_f9.out p9
   subst g
   go_wp2
   exact⟨b,_,_,_,_,_,_,_,_,_,_,_,_,_,_,rfl,hb,fQ⟩
  ·have p0:d 0=true:=hdep ⟨0,.data⟩ Ab rfl
   have p10:d 10=true:=hdep ⟨10,.data⟩ Ab rfl
   obtain⟨m,e1,e2,e3⟩:=H_f0.out p0
   have g:=H_f10.out p10
   subst g;subst e1
   obtain⟨w2,hr,hm2,hk,h1,h2,h3,h4⟩:=e3.insert (P:=Tryz.prog) Tryz.underlying596 Tryz.underlying3 (k:=22) (.agg #[(.func (.func 431) #[] #[.pointer (some ⟨b,0,none⟩),.pointer (some ⟨b+1,0,none⟩)]),.int .i64 1]) (Ml (o:=11) (by simp[Fg]) hd)
   have E3:=Zh e3;clear e3
   go_wp2
   exact⟨b,_,_,_,_,_,_,_,_,_,_,_,_,_,_,rfl,I6 hb e2 hk h1 h2 h3 h4,fun _=>⟨m,rfl,e2,hm2.congr (Ol (by simp[Fg]) (by simp[Fg]))⟩,fQ⟩
  ·have hc:=(hb.cell (p:=⟨n+1+1,0,none⟩) hn2).trans hcell
   go_wp2
   exact⟨b,_,_,_,_,_,_,_,_,_,_,_,_,_,_,rfl,hb,fQ⟩
  ·have p12:d 12=true:=hdep ⟨12,.data⟩ Ab rfl
   have g:=H_f12.out p12
   subst g
   go_wp2
   exact⟨b,_,_,_,_,_,_,_,_,_,_,_,_,_,_,rfl,hb,fQ⟩
  ·have p0:d 0=true:=hdep ⟨0,.data⟩ Ab rfl
   have p13:d 13=true:=hdep ⟨13,.data⟩ Ab rfl
   obtain⟨m,e1,e2,e3⟩:=H_f0.out p0
   have g:=H_f13.out p13
   subst g;subst e1
   obtain⟨w2,hr,hm2,hk,h1,h2,h3,h4⟩:=e3.insert (P:=Tryz.prog) Tryz.underlying596 Tryz.underlying3 (k:=26) (.agg #[(.func (.func 431) #[] #[.pointer (some ⟨n,0,none⟩),.pointer (some ⟨n+1,0,none⟩)]),.int .i64 1]) (Ml (o:=14) (by simp[Fg]) hd)
   have E3:=Zh e3;clear e3
   go_wp2
   exact⟨b,_,_,_,_,_,_,_,_,_,_,_,_,_,_,rfl,I6 hb e2 hk h1 h2 h3 h4,fun _=>⟨m,rfl,e2,hm2.congr (Ol (by simp[Fg]) (by simp[Fg]))⟩,fQ⟩
  ·go_wp2
   exact⟨b,_,_,_,_,_,_,_,_,_,_,_,_,_,_,rfl,hb,fQ⟩
  ·have p0:d 0=true:=hdep ⟨0,.data⟩ Ab rfl
   have p15:d 15=true:=hdep ⟨15,.data⟩ Ab rfl
   obtain⟨m,e1,e2,e3⟩:=H_f0.out p0
   have g:=H_f15.out p15
   subst g;subst e1
   obtain⟨w2,hr,hm2,hk,h1,h2,h3,h4⟩:=e3.insert (P:=Tryz.prog) Tryz.underlying596 Tryz.underlying3 (k:=28) (.agg #[(.func (.func 423) #[] #[]),.int .i64 4]) (Ml (o:=16) (by simp[Fg]) hd)
   have E3:=Zh e3;clear e3
   go_wp2
   exact⟨b,_,_,_,_,_,_,_,_,_,_,_,_,_,_,rfl,I6 hb e2 hk h1 h2 h3 h4,fun _=>⟨m,rfl,e2,hm2.congr (Ol (by simp[Fg]) (by simp[Fg]))⟩,fQ⟩
  ·go_wp2
   exact⟨b,_,_,_,_,_,_,_,_,_,_,_,_,_,_,rfl,hb,fQ⟩
  ·have p0:d 0=true:=hdep ⟨0,.data⟩ Ab rfl
   have p17:d 17=true:=hdep ⟨17,.data⟩ Ab rfl
   obtain⟨m,e1,e2,e3⟩:=H_f0.out p0
   have g:=H_f17.out p17
   subst g;subst e1
   obtain⟨w2,hr,hm2,hk,h1,h2,h3,h4⟩:=e3.insert (P:=Tryz.prog) Tryz.underlying596 Tryz.underlying3 (k:=30) (.agg #[(.func (.func 424) #[] #[]),.int .i64 2]) (Ml (o:=18) (by simp[Fg]) hd)
   have E3:=Zh e3;clear e3
   go_wp2
   exact⟨b,_,_,_,_,_,_,_,_,_,_,_,_,_,_,rfl,I6 hb e2 hk h1 h2 h3 h4,fun _=>⟨m,rfl,e2,hm2.congr (Ol (by simp[Fg]) (by simp[Fg]))⟩,fQ⟩
  ·have p0:d 0=true:=hdep ⟨0,.data⟩ Ab rfl
   go_wp2
   exact⟨b,_,_,_,_,_,_,_,_,_,_,_,_,_,_,rfl,hb,fQ⟩
  ·have p19:d 19=true:=hdep ⟨19,.data⟩ Ab rfl
   have g:=H_f19.out p19
   have p0:=H_c3.out p19
   subst g
   go_wp2
   exact⟨b,_,_,_,_,_,_,_,_,_,_,_,_,_,_,rfl,hb,fQ⟩
end Go.Proofs.YtbedjionhmaafaaGreatDoor
