/- MC: the texts Inl Vc Vcs Vco Vcn Pk LoopN Types Tab PkW, one behind the other. No condition but what each lemma says. -/
import Derived.Test.YtblabcopgeobgaaGreatDoorMB
import Derived.Test.YtblabcopgeobgaaGreatDoorProg
namespace Go.Proofs.YtblabcopgeobgaaGreatDoor
open Go.RowKit
def ghM (M : Nat) : List (Nat × AV) → List (Nat × AV)
 | [] => []
 | (t, u) :: r => (t + M, u) :: ghM M r
def backM (M : Nat) : List (Nat × AV) → List (Nat × AV)
 | [] => []
 | (t, u) :: r => match Nat.ble M t with
   | true => (t - M, u) :: backM M r
   | false => backM M r
def inM (M : Nat) (us : List AV) (tm : List (Nat × AV)) : List (Nat × AV) := initTm 0 us ++ ghM M tm
def inT (us : List AV) (tm : List (Nat × AV)) : List (Nat × AV) := inM 1000000 us tm
def backT (l : List (Nat × AV)) : List (Nat × AV) := backM 1000000 l
theorem lk_ghM {M t : Nat} {u : AV} : ∀ {l : List (Nat × AV)}, lk t (ghM M l) = some u → M ≤ t ∧ lk (t - M) l = some u
 | [], h => by cases h
 | (s, c) :: r, h => by
   simp only [ghM, lk] at h
   cases hb : Nat.beq (s + M) t with
   | true =>
     rw [hb] at h
     have e := Nat.eq_of_beq_eq_true hb
     subst e
     refine ⟨by omega, ?_⟩
     rw [Nat.add_sub_cancel, lk_same]; exact h
   | false =>
     rw [hb] at h
     obtain ⟨h1, h2⟩ := lk_ghM (l := r) h
     refine ⟨h1, ?_⟩
     rw [lk_ne _ _ (fun e => ?_)]
     ·exact h2
     ·subst e
      have : t - M + M = t := by omega
      rw [this, Nat.beq_refl] at hb; cases hb
theorem lk_app {β : Type} {t : Nat} {u : β} : ∀ {l m : List (Nat × β)}, lk t (l ++ m) = some u → lk t l = some u ∨ lk t m = some u
 | [], _, h => .inr h
 | (s, c) :: r, m, h => by
   simp only [List.cons_append, lk] at h
   cases hb : Nat.beq s t with
   | true => rw [hb] at h; left; simp only [lk, hb]; exact h
   | false =>
     rw [hb] at h
     rcases lk_app (l := r) h with h | h
     ·left; simp only [lk, hb]; exact h
     ·exact .inr h
theorem lk_backM {M t : Nat} {u : AV} : ∀ {l : List (Nat × AV)}, lk t (backM M l) = some u → lk (t + M) l = some u
 | [], h => by cases h
 | (s, c) :: r, h => by
   simp only [backM] at h
   cases hb : Nat.ble M s with
   | true =>
     rw [hb] at h
     have hs := Nat.le_of_ble_eq_true hb
     by_cases e : s - M = t
     ·subst e
      simp only [lk_same] at h
      have : s - M + M = s := by omega
      rw [this, lk_same]; exact h
     ·simp only [lk_ne _ _ e] at h
      rw [lk_ne _ _ (by omega)]
      exact lk_backM h
   | false =>
     rw [hb] at h
     have hs : s < M := by
      rcases Nat.lt_or_ge s M with h | h
      ·exact h
      ·rw [Nat.ble_eq_true_of_le h] at hb; cases hb
     rw [lk_ne _ _ (by omega)]
     exact lk_backM h
theorem Cx.val_ge {C : Cx} {a : Act} {t : Nat} (h : 1000000 ≤ t) : C.val a t = C.gh t := by
 have hb : Nat.blt t 1000000 = false := by
  cases hb : Nat.blt t 1000000 with
  | false => rfl
  | true => have := ltN0 hb; omega
 unfold Cx.val
 rw [hb]; rfl
def Cx.inn (M : Nat) (C : Cx) (N : Nat) (a : Act) : Cx := ⟨C.W, C.fp0, N, fun t => C.val a (t - M), C.z0⟩
theorem GG.inn {M : Nat} (hM : M = 1000000) {C : Cx} {bm : BM} {gt : Nat → Value} {fp : Nat → Nat → Prop} {σ : AS} {a : Act} {w : World} (h : GG C bm gt fp σ a w) {us : List AV} {vs : List Value} {N : Nat} (hN : N ≤ 1000000) (hl : vs.length = us.length) (hlN : us.length ≤ N)
 (hr : ∀ (i : Nat) u v, us[i]? = some u → vs[i]? = some v → RA C.W.heap.size fp w bm gt u v) :
 GG (Cx.inn M C N a) bm gt fp ⟨inM M us σ.tm, σ.bx, σ.tk⟩ { tmps := vs.toArray ++ Array.replicate (N - vs.toArray.size) undef, defers := [] } w := by
 refine { sz := ?_, nN := hN, gd := h.gd, za := h.za, zb := h.zb, zf := h.zf, ztk := h.ztk, df := rfl, tm := fun t u hu => ?_, bx := h.bx, bxi := h.bxi, tk := h.tk, tki := h.tki, tkb := h.tkb, fpb := h.fpb, fp0 := h.fp0, fpB := h.fpB, bel := h.bel }
 ·show _ = N
  simp; omega
 ·rcases lk_app hu with hu | hu
  ·obtain ⟨_, h2⟩ := lk_initTm us 0 hu
   rw [Nat.sub_zero] at h2
   have hlt := (List.getElem?_eq_some_iff.1 h2).1
   have hlv : t < vs.length := by omega
   refine ⟨vs[t], ?_, hr t u _ h2 (List.getElem?_eq_getElem hlv)⟩
   rw [Cx.val_lt (by omega), Array.getElem?_append_left (by simpa using hlv)]
   simp [hlv]
  ·obtain ⟨h1, h2⟩ := lk_ghM hu
   obtain ⟨v, k1, k2⟩ := h.tm _ u h2
   exact ⟨v, (Cx.val_ge (by omega)).trans k1, k2⟩
theorem GG.out {M : Nat} (hM : M = 1000000) {C : Cx} {a : Act} {N : Nat} {bm : BM} {gt : Nat → Value} {fp : Nat → Nat → Prop} {σ : AS} {a' : Act} {w : World} (hsz : a.tmps.size = C.N) (hN : C.N ≤ 1000000) (hdf : a.defers = []) (h : GG (Cx.inn M C N a) bm gt fp σ a' w) : GG C bm gt fp ⟨backM M σ.tm, σ.bx, σ.tk⟩ a w := by
 refine { sz := hsz, nN := hN, gd := h.gd, za := h.za, zb := h.zb, zf := h.zf, ztk := h.ztk, df := hdf, tm := fun t u hu => ?_, bx := h.bx, bxi := h.bxi, tk := h.tk, tki := h.tki, tkb := h.tkb, fpb := h.fpb, fp0 := h.fp0, fpB := h.fpB, bel := h.bel }
 obtain ⟨v, k1, k2⟩ := h.tm _ u (lk_backM hu)
 refine ⟨v, ?_, k2⟩
 rw [Cx.val_ge (by omega)] at k1
 have e : (Cx.inn M C N a).gh (t + M) = C.val a (t + M - M) := rfl
 rw [e, Nat.add_sub_cancel] at k1
 exact k1
def AS.ret (σ : AS) (d : Option Nat) (u : AV) : AS := ⟨match d with | some t => (t, u) :: backT σ.tm | none => backT σ.tm, σ.bx, σ.tk⟩
def endI (P : Program) (rs : List ResultVar) (d : Option Nat) (S : AS → Prop) : Exit → AS → Prop
 | .normal, σ => ∃ us, ResAVs P σ rs us ∧ S (σ.ret d (single us))
 | .ret, σ => ∃ us, ResAVs P σ rs us ∧ S (σ.ret d (single us))
 | _, _ => False
section
variable {P : Program} {C : Cx} {o : Oper} {σ : AS}
theorem inl_post {bm : BM} {gt : Nat → Value} {fp : Nat → Nat → Prop} {a : Act} {w : World} (hg : GG C bm gt fp σ a w) (hd : ∀ t, o.dst = some t → t < C.N) {f : FuncId} {fn : Func} {c : Code} {us : List AV} {vs : List Value} {S : AS → Prop} (hf : P.funcs[f]? = some fn) (hb : fn.body = some c) (hn : fn.results.size ≤ 4) (hN : us.length ≤ fn.ntmps) (hN6 : fn.ntmps ≤ 1000000) (hl : vs.length = us.length)
 (hr : ∀ (i : Nat) u v, us[i]? = some u → vs[i]? = some v → RA C.W.heap.size fp w bm gt u v)
 (h : ∀ gh, ACode P ⟨C.W, C.fp0, fn.ntmps, gh, C.z0⟩ c (endI P fn.results.toList o.dst S) ⟨inT us σ.tm, σ.bx, σ.tk⟩) {K : Act → World → Prop} {Q : Exit → Act → World → Prop} (hK : ∀ σ' a' w', S σ' → G C σ' a' w' → K a' w') :
 o.upon P a K Q (.ok (.enter f vs.toArray) w) := by
 rw [Oper.upon_enter]
 have hcalls : Calls P f vs.toArray w fun e w' => ∃ v σ' u, e = .returned v ∧ S (σ'.ret o.dst u) ∧ ∃ bm gt fp a', GG (Cx.inn 1000000 C fn.ntmps a) bm gt fp σ' a' w' ∧ RA C.W.heap.size fp w' bm gt u v := by
  refine calls_of_wp hf hb ?_
  have hG := hg.inn (M := 1000000) rfl (us := us) (vs := vs) hN6 hl hN hr
  refine wp_mono (h _ _ w ⟨bm, gt, fp, hG⟩) fun e a1 w' ⟨σ', hΦ, bm', gt', fp', hg'⟩ => ?_
  have fin : (∃ us, ResAVs P σ' fn.results.toList us ∧ S (σ'.ret o.dst (single us))) → bodyPost P fn (fun e w' => ∃ v σ' u, e = .returned v ∧ S (σ'.ret o.dst u) ∧ ∃ bm gt fp a', GG (Cx.inn 1000000 C fn.ntmps a) bm gt fp σ' a' w' ∧ RA C.W.heap.size fp w' bm gt u v) .ret a1 w' := by
   rintro ⟨us', h1, h2⟩
   obtain ⟨v, hrun, hra⟩ := run_results hg' h1 hn
   exact ⟨hg'.df, v, hrun, v, σ', single us', rfl, h2, bm', gt', fp', a1, hg', hra⟩
  cases e with
  | normal => exact fin hΦ
  | ret => exact fin hΦ
  | _ => exact hΦ.elim
 refine hcalls.mono ?_
 rintro e w' ⟨v, σ', u, rfl, hS, bm', gt', fp', a', hg', hra⟩
 simp only []
 have ho := hg'.out (M := 1000000) rfl hg.sz hg.nN hg.df
 refine hK _ _ _ hS ?_
 unfold AS.ret
 cases hdd : o.dst with
 | none => exact ⟨bm', gt', fp', ho⟩
 | some t => exact ⟨bm', gt', fp', ho.put (t := t) (hd t hdd) hra⟩
theorem step_inl {f : FuncId} {fn : Func} {c : Code} {args : Array Operand} {ats : Array TypeId} {us : List AV} {S : AS → Prop} (ho : o.op = .call { callee := .value (.func f), args := args, argTypes := ats }) (hd : ∀ t, o.dst = some t → t < C.N)
 (hu : evL σ args.toList = some us) (he : ∀ xs0 w, (callFunc f xs0).run P w = .ok (.enter f xs0) w) (hf : P.funcs[f]? = some fn) (hb : fn.body = some c) (hn : fn.results.size ≤ 4) (hN : us.length ≤ fn.ntmps) (hN6 : fn.ntmps ≤ 1000000)
 (h : ∀ gh, ACode P ⟨C.W, C.fp0, fn.ntmps, gh, C.z0⟩ c (endI P fn.results.toList o.dst S) ⟨inT us σ.tm, σ.bx, σ.tk⟩) : AStepS P C o σ S := by
 rintro a w ⟨bm, gt, fp, hg⟩ K Q hK
 obtain ⟨hl, hr⟩ := hg.evA hu
 have hrun : (execOp a.eval o).run P w = .ok (.enter f (args.toList.map a.eval).toArray) w := by
  simp only [execOp, ho, resolve, Deferred.ofValue, Act.eval, invoke, Sem.run_bind, Sem.run_pure, Result.andThen_ok, he]
  obtain ⟨l⟩ := args
  simp
 unfold Oper.wp
 rw [hrun]
 exact inl_post hg hd hf hb hn hN hN6 hl hr h hK
end
end Go.Proofs.YtblabcopgeobgaaGreatDoor

namespace Go.Proofs.YtblabcopgeobgaaGreatDoor
open Go.RowKit
abbrev TM := List (Nat × AV)
abbrev BX := List (Nat × List AV)
abbrev TK := List (Nat × Nat × Nat × TypeId)
abbrev KS := TM → BX → TK → Prop
structure Tab where
 ty : List (Nat × TypeDesc × Value × Nat × Nat)
 fd : List (Nat × List (Nat × Nat × Bool))
 st : List (Nat × List (Nat × Nat))
 mu : List Nat
 off : Nat
structure TabOk (P : Program) (T : Tab) : Prop where
 ty : ∀ {t d z sz b}, lk t T.ty = some (d, z, sz, b) → TyOk P t d z sz b
 fd : ∀ {t : Nat} {l i off sz ag}, lk t T.fd = some l → l[i]? = some (off, sz, ag) → FldOk P t i off sz ag
 st : ∀ {t pl}, lk t T.st = some pl → StrOk P t pl
structure NBr (b : Bool) (A B : Prop) : Prop where
 t : b = true → A
 f : b = false → B
structure NInt (e : Int) (A : Int → Prop) : Prop where
 h : ∀ z, e = z → A z
structure NFact (F A : Prop) : Prop where
 h : F
 k : A
structure NIdx (cs : List D) (n sz : Nat) (j : Int) (A : List D → Prop) : Prop where
 h : ∃ (i : Nat) (ds : List D), j = (i : Int) ∧ i < n ∧ (cs.drop (i * sz)).take sz = ds ∧ A ds
structure NIdxS (l : List UInt8) (j : Int) (A : UInt8 → Prop) : Prop where
 h : ∃ (i : Nat) (b : UInt8), j = (i : Int) ∧ l[i]? = some b ∧ A b
structure NSl (cs : List D) (n sz : Nat) (lo hi mx : Int) (A : Nat → List D → Prop) : Prop where
 h : ∃ (l h m r : Nat) (ds : List D), lo = (l : Int) ∧ hi = (h : Int) ∧ mx = (m : Int) ∧ l ≤ h ∧ h ≤ m ∧ m ≤ n ∧ h - l = r ∧ (cs.drop (l * sz)).take (r * sz) = ds ∧ A r ds
structure NSlS (s : List UInt8) (lo hi : Int) (A : List UInt8 → Prop) : Prop where
 h : ∃ (l h : Nat) (r : List UInt8), lo = (l : Int) ∧ hi = (h : Int) ∧ l ≤ h ∧ h ≤ s.length ∧ (s.drop l).take (h - l) = r ∧ A r
structure NStr (cs : List D) (A : List UInt8 → Prop) : Prop where
 h : ∃ l, cs = bytesL l ∧ A l
structure NApp (n' n m : Nat) (cs ds : List D) (A : Nat → List D → Prop) : Prop where
 h : n' = n ∧ n + m ≤ 1000000000 ∧ ∃ (r : Nat) (es : List D), n + m = r ∧ cs ++ ds = es ∧ A r es
structure NCall (P : Program) (f : FuncId) (args : List AV) (A : AV → Prop) : Prop where
 h : ∃ r, ACalls P f args (fun r' => r' = r) ∧ A r
structure NStep (P : Program) (C : Cx) (o : Oper) (tm : TM) (bx : BX) (tk : TK) (K : KS) : Prop where
 h : ∃ S, AStepS P C o ⟨tm, bx, tk⟩ S ∧ ∀ σ', S σ' → K σ'.tm σ'.bx σ'.tk
structure NLa (P : Program) (C : Cx) (o : Oper) (tm : TM) (bx : BX) (tk : TK) (k : It → Prop) : Prop where
 h : ∃ it, LA P C o it ⟨tm, bx, tk⟩ ∧ k it
def toΦ (kn : KS) (ke : Nat → KS) (kr : KS) : Exit → AS → Prop
 | .normal, σ => kn σ.tm σ.bx σ.tk
 | .exit id, σ => ke id σ.tm σ.bx σ.tk
 | .ret, σ => kr σ.tm σ.bx σ.tk
 | _, _ => False
structure NCode (P : Program) (C : Cx) (c : Code) (tm : TM) (bx : BX) (tk : TK) (kn : KS) (ke : Nat → KS) (kr : KS) : Prop where
 h : ACode P C c (toΦ kn ke kr) ⟨tm, bx, tk⟩
structure NLoop (tm : TM) (bx : BX) (tk : TK) (R : KS → KS) : Prop where
 h : ∃ (α : Type) (inv : α → Prop) (ms : α → Nat) (st : α → AS) (W : AS → AS → Prop) (a0 : α), (∀ a b, W a b → Ent a b) ∧ inv a0 ∧ Ent ⟨tm, bx, tk⟩ (st a0) ∧
   ∀ a, inv a → R (fun tm' bx' tk' => ∃ a', inv a' ∧ ms a' < ms a ∧ W ⟨tm', bx', tk'⟩ (st a')) (st a).tm (st a).bx (st a).tk
structure NEnd (tm : TM) (bx : BX) (tk : TK) (u : AV) (Φ : AV → Prop) : Prop where
 h : ∃ r, Fini ⟨tm, bx, tk⟩ u r ∧ Φ r
noncomputable def forceL {α : Type} (l : List α) (K : List α → Prop) : Prop :=
 @List.rec α (fun _ => (List α → Prop) → Prop) (fun K => K []) (fun x _ ih K => ih (fun ys => K (x :: ys))) l K
theorem forceL_eq {α : Type} : ∀ {l : List α} {K : List α → Prop}, forceL l K → K l
 | [], _, h => h
 | x :: r, K, h => forceL_eq (l := r) (K := fun ys => K (x :: ys)) h
def evT (tm : TM) : Operand → Option AV
 | .tmp t => bif Nat.blt t 1000000 then lk t tm else none
 | .const v => some (.d (.v v))
 | .func f => some (.d (.fn f []))
 | .global _ => none
theorem evT_eq {tm : TM} {bx : BX} {tk : TK} {x : Operand} {u : AV} (h : evT tm x = some u) : AS.eval ⟨tm, bx, tk⟩ x = some u := by cases x <;> exact h
noncomputable def evLW (tm : TM) (l : List Operand) (K : List AV → Prop) (dflt : Prop) : Prop :=
 @List.rec Operand (fun _ => (List AV → Prop) → Prop) (fun K => K []) (fun x _ ih K => match evT tm x with
  | some u => ih (fun us => K (u :: us))
  | none => dflt) l K
theorem evLW_ok {tm : TM} {bx : BX} {tk : TK} {dflt : Prop} : ∀ {l : List Operand} {K : List AV → Prop}, evLW tm l K dflt → (∃ us, evL ⟨tm, bx, tk⟩ l = some us ∧ K us) ∨ dflt
 | [], K, h => .inl ⟨[], rfl, h⟩
 | x :: r, K, h => by
   have h' : (match evT tm x with | some u => evLW tm r (fun us => K (u :: us)) dflt | none => dflt) := h
   cases hx : evT tm x with
   | none => rw [hx] at h'; exact .inr h'
   | some u =>
     rw [hx] at h'
     rcases evLW_ok (bx := bx) (tk := tk) h' with ⟨us, h1, h2⟩ | h2
     ·refine .inl ⟨u :: us, ?_, h2⟩
      unfold evL
      rw [evT_eq hx, h1]
     ·exact .inr h2
noncomputable def evPW (tm : TM) (l : List (Nat × Operand)) (K : List (Nat × AV) → Prop) (dflt : Prop) : Prop :=
 @List.rec (Nat × Operand) (fun _ => (List (Nat × AV) → Prop) → Prop) (fun K => K []) (fun x _ ih K => match evT tm x.2 with
  | some u => ih (fun us => K ((x.1, u) :: us))
  | none => dflt) l K
theorem evPW_ok {tm : TM} {bx : BX} {tk : TK} {dflt : Prop} : ∀ {l : List (Nat × Operand)} {K : List (Nat × AV) → Prop}, evPW tm l K dflt → (∃ us, evP ⟨tm, bx, tk⟩ l = some us ∧ K us) ∨ dflt
 | [], K, h => .inl ⟨[], rfl, h⟩
 | (i, x) :: r, K, h => by
   have h' : (match evT tm x with | some u => evPW tm r (fun us => K ((i, u) :: us)) dflt | none => dflt) := h
   cases hx : evT tm x with
   | none => rw [hx] at h'; exact .inr h'
   | some u =>
     rw [hx] at h'
     rcases evPW_ok (bx := bx) (tk := tk) h' with ⟨us, h1, h2⟩ | h2
     ·refine .inl ⟨(i, u) :: us, ?_, h2⟩
      unfold evP
      rw [evT_eq hx, h1]
     ·exact .inr h2
def kvW (N : Nat) (dst : Option Nat) (rb : List Nat) (u : AV) (k : It → Prop) (dflt : Prop) : Prop :=
 match dst with
 | some t => bif Nat.blt t N then k ⟨rb, some (t, u), none, none, [], [], [], []⟩ else dflt
 | none => dflt
theorem kvW_ok {N : Nat} {dst : Option Nat} {rb : List Nat} {u : AV} {k : It → Prop} {dflt : Prop} (h : kvW N dst rb u k dflt) : (∃ t, dst = some t ∧ t < N ∧ k ⟨rb, some (t, u), none, none, [], [], [], []⟩) ∨ dflt := by
 unfold kvW at h
 split at h
 ·rename_i t
  cases hb : Nat.blt t N with
  | true => rw [hb] at h; exact .inl ⟨t, rfl, ltN hb, h⟩
  | false => rw [hb] at h; exact .inr h
 ·exact .inr h
def keyK (T : Tab) (t : Nat) (K : Nat → Prop) : Prop :=
 match T.off with
 | 0 => K t
 | n + 1 => K (t + (n + 1))
theorem keyK_ok {T : Tab} {t : Nat} {K : Nat → Prop} (h : keyK T t K) : ∃ κ, K κ := by
 unfold keyK at h
 split at h
 ·exact ⟨_, h⟩
 ·exact ⟨_, h⟩
def sameK (k k' : IntKind) : Bool := Nat.beq k.ctorIdx k'.ctorIdx
theorem sameK_ok {k k' : IntKind} (h : sameK k k' = true) : k = k' := by cases k <;> cases k' <;> first | rfl | cases h
section
variable (P : Program) (C : Cx) (T : Tab)
def vVal (tm : TM) (dst : Option Nat) (x : Operand) (k : It → Prop) (dflt : Prop) : Prop :=
 match evT tm x with
 | some u => kvW C.N dst [] u k dflt
 | none => dflt
def vBinI (op : BinOp) (k k' : IntKind) (m n : Int) (kz : Value → Prop) (dflt : Prop) : Prop :=
 match op with
 | .add => bif sameK k k' then NInt (k.wrap (m + n)) (fun z => kz (.int k z)) else dflt
 | .sub => bif sameK k k' then NInt (k.wrap (m - n)) (fun z => kz (.int k z)) else dflt
 | .mul => bif sameK k k' then NInt (k.wrap (m * n)) (fun z => kz (.int k z)) else dflt
 | .and => bif sameK k k' then NInt (k.wrap (BitVec.ofInt k.bits m &&& BitVec.ofInt k.bits n).toNat) (fun z => kz (.int k z)) else dflt
 | .or => bif sameK k k' then NInt (k.wrap (BitVec.ofInt k.bits m ||| BitVec.ofInt k.bits n).toNat) (fun z => kz (.int k z)) else dflt
 | .quo => bif sameK k k' then NFact (n ≠ 0) (NInt (k.wrap (m.tdiv n)) (fun z => kz (.int k z))) else dflt
 | .rem => bif sameK k k' then NFact (n ≠ 0) (NInt (m.tmod n) (fun z => kz (.int k z))) else dflt
 | .shl => NFact (0 ≤ n) (NInt (k.wrap (m * 2 ^ (min n.toNat k.bits))) (fun z => kz (.int k z)))
 | .shr => NFact (0 ≤ n) (NInt (m.fdiv (2 ^ (min n.toNat k.bits))) (fun z => kz (.int k z)))
 | op => bif sameK k k' then (match binI op k m n with
   | some z => kz z
   | none => dflt) else dflt
def vBinV (op : BinOp) (xt : TypeId) (p q : Value) (kz : Value → Prop) (dflt : Prop) : Prop :=
 match p, q with
 | .int k m, .int k' n => vBinI op k k' m n kz dflt
 | .bool a, .bool b => (match lk xt T.ty with
   | some (.bool, _, _, _) => (match op with
     | .eql => kz (.bool (a == b))
     | .neq => kz (.bool (!(a == b)))
     | _ => dflt)
   | _ => dflt)
 | .string ⟨⟨l⟩⟩, .string ⟨⟨m⟩⟩ => (match op with
   | .eql => kz (.bool (l == m))
   | .neq => kz (.bool (!(l == m)))
   | .add => NFact (l.length + m.length ≤ 1000000000) (kz (.string ⟨(l ++ m).toArray⟩))
   | _ => dflt)
 | _, _ => dflt
def vBin (tm : TM) (dst : Option Nat) (op : BinOp) (xt : TypeId) (x y : Operand) (k : It → Prop) (dflt : Prop) : Prop :=
 match evT tm x, evT tm y with
 | some (.d (.v p)), some (.d (.v q)) => vBinV T op xt p q (fun z => kvW C.N dst [] (.d (.v z)) k dflt) dflt
 | _, _ => dflt
def vNot (tm : TM) (dst : Option Nat) (op : UnOp) (x : Operand) (k : It → Prop) (dflt : Prop) : Prop :=
 match op, evT tm x with
 | .not, some (.d (.v (.bool b))) => kvW C.N dst [] (.d (.v (.bool !b))) k dflt
 | _, _ => dflt
def vConvS (ux : AV) (e : TypeId) (kl : List UInt8 → Prop) (dflt : Prop) : Prop :=
 match lk e T.ty with
 | some (.int .u8, _, _, _) => (match ux.asSlT 1 with
   | some (_, _, cs) => NStr cs kl
   | none => dflt)
 | _ => dflt
def vConv (tm : TM) (dst : Option Nat) (src dt : TypeId) (x : Operand) (k : It → Prop) (dflt : Prop) : Prop :=
 match evT tm x with
 | some ux => (match lk dt T.ty with
   | some (.int ki, _, _, _) => (match ux, lk src T.ty with
     | .d (.v (.int _ m)), some _ => NInt (ki.wrap m) (fun z => kvW C.N dst [] (.d (.v (.int ki z))) k dflt)
     | _, _ => dflt)
   | some (.string, _, _, _) => (match lk src T.ty with
     | some (.string, _, _, _) => (match ux with
       | .d (.v (.string s)) => kvW C.N dst [] (.d (.v (.string s))) k dflt
       | _ => dflt)
     | some (.slice e, _, _, _) => vConvS T ux e (fun l => kvW C.N dst [] (.d (.v (.string ⟨l.toArray⟩))) k dflt) dflt
     | _ => dflt)
   | _ => dflt)
 | none => dflt
def vExtract (tm : TM) (dst : Option Nat) (x : Operand) (i : Nat) (k : It → Prop) (dflt : Prop) : Prop :=
 match evT tm x with
 | some (.tup us) => (match us[i]? with
   | some u => kvW C.N dst [] u k dflt
   | none => dflt)
 | _ => dflt
noncomputable def vLoad (tm : TM) (bx : BX) (dst : Option Nat) (ty : TypeId) (x : Operand) (k : It → Prop) (dflt : Prop) : Prop :=
 match lk ty T.ty with
 | some (d, _, sz, _) => (match evT tm x with
   | some (.ptr b off) => (match lk b bx with
     | some cs => bif aggD d then forceL ((cs.drop off).take sz) (fun us => bif Nat.beq us.length sz then kvW C.N dst [b] (.agg us) k dflt else dflt)
       else (match cs[off]? with
        | some u => kvW C.N dst [b] u k dflt
        | none => dflt)
     | none => dflt)
   | some (.d (.cp _ ds)) => bif aggD d then (bif Nat.beq ds.length sz then forceL (ds.map AV.d) (fun us => kvW C.N dst [] (.agg us) k dflt) else dflt)
      else (match ds with
       | u :: _ => kvW C.N dst [] (.d u) k dflt
       | [] => dflt)
   | _ => dflt)
 | none => dflt
noncomputable def vStore (tm : TM) (bx : BX) (dst : Option Nat) (ty : TypeId) (x y : Operand) (k : It → Prop) (dflt : Prop) : Prop :=
 match dst, lk ty T.ty with
 | none, some (_, _, sz, _) => (match evT tm x, evT tm y with
   | some (.ptr b off), some u => (match lk b bx with
     | some cs => bif u.flat && Nat.beq u.cells.length sz && Nat.ble (off + sz) cs.length then forceL (splice cs off u.cells) (fun cs' => k ⟨[b], none, some (b, cs'), none, [], [], [], []⟩) else dflt
     | none => dflt)
   | _, _ => dflt)
 | _, _ => dflt
noncomputable def vAlloc (dst : Option Nat) (ty : TypeId) (k : It → Prop) (dflt : Prop) : Prop :=
 match dst, lk ty T.ty with
 | some t, some (_, z, _, _) => bif Nat.blt t C.N then keyK T t (fun κ => forceL (z.cells.toList.map (fun x => AV.d (.v x))) (fun zs => k ⟨[], some (t, .ptr κ 0), some (κ, zs), none, [κ], [], [], []⟩)) else dflt
 | _, _ => dflt
noncomputable def vBox (tm : TM) (dst : Option Nat) (ty : TypeId) (x : Operand) (k : It → Prop) (dflt : Prop) : Prop :=
 match dst, lk ty T.ty, evT tm x with
 | some t, some _, some u => bif Nat.blt t C.N && u.flat then keyK T t (fun κ => bif u.clean κ then forceL u.cells (fun cs => k ⟨[], some (t, .ptr κ 0), some (κ, cs), none, [κ], [], [], []⟩) else dflt) else dflt
 | _, _, _ => dflt
noncomputable def vFieldAddr (tm : TM) (dst : Option Nat) (ty : TypeId) (x : Operand) (i : Nat) (k : It → Prop) (dflt : Prop) : Prop :=
 match lk ty T.fd with
 | some fl => (match fl[i]? with
   | some (off, sz, _) => bif Nat.blt 0 sz then (match evT tm x with
     | some (.ptr b p) => kvW C.N dst [] (.ptr b (p + off)) k dflt
     | some (.d (.cp tg ds)) => forceL ((ds.drop off).take sz) (fun ds' => kvW C.N dst [] (.d (.cp tg ds')) k dflt)
     | _ => dflt) else dflt
   | none => dflt)
 | none => dflt
noncomputable def vField (tm : TM) (dst : Option Nat) (ty : TypeId) (x : Operand) (i : Nat) (k : It → Prop) (dflt : Prop) : Prop :=
 match lk ty T.fd with
 | some fl => (match fl[i]? with
   | some (off, sz, ag) => (match evT tm x with
     | some (.agg us) => bif ag then forceL ((us.drop off).take sz) (fun us' => kvW C.N dst [] (.agg us') k dflt)
       else (match us[off]? with
        | some u => kvW C.N dst [] u k dflt
        | none => dflt)
     | _ => dflt)
   | none => dflt)
 | none => dflt
noncomputable def vBuild (tm : TM) (dst : Option Nat) (ty : TypeId) (ps : Array (Nat × Operand)) (k : It → Prop) (dflt : Prop) : Prop :=
 match lk ty T.ty, lk ty T.st with
 | some (_, z, _, _), some pl => evPW tm ps.toList (fun us => match fillA (fun i : Nat => pl[i]?) (z.cells.toList.map (fun x => AV.d (.v x))) us with
   | some cs => forceL cs (fun cs => kvW C.N dst [] (.agg cs) k dflt)
   | none => dflt) dflt
 | _, _ => dflt
noncomputable def vSlit (tm : TM) (dst : Option Nat) (st : TypeId) (n : Nat) (ps : Array (Nat × Operand)) (k : It → Prop) (dflt : Prop) : Prop :=
 match dst, lk st T.ty with
 | some t, some (.slice e, _, _, _) => (match lk e T.ty with
   | some (_, z, sz, _) => bif Nat.blt t C.N && Nat.ble (n * sz) 1000 && Nat.ble n 1000 then evPW tm ps.toList (fun us => match fillA (fun i => some (i * sz, sz)) ((List.range (n * sz)).map fun i => AV.d (.v (z.cells[i % z.cells.size]!))) us with
     | some cs => (match dataOf cs with
       | some ds => bif ones cs then keyK T t (fun κ => forceL ds (fun ds => k ⟨[], some (t, .own κ n sz e ds), none, some (κ, n, sz, e), [κ], [], [], []⟩)) else dflt
       | none => dflt)
     | none => dflt) dflt else dflt
   | none => dflt)
 | _, _ => dflt
def vIdxA (tm : TM) (dst : Option Nat) (st : TypeId) (x y : Operand) (k : It → Prop) (dflt : Prop) : Prop :=
 match lk st T.ty with
 | some (.slice e, _, _, _) => (match lk e T.ty with
   | some (_, _, sz, _) => bif Nat.blt 0 sz then (match evT tm x, evT tm y with
     | some ux, some (.d (.v (.int _ j))) => (match ux.asSlT sz with
       | some (tg, n, cs) => NIdx cs n sz j (fun ds => kvW C.N dst [] (.d (.cp tg ds)) k dflt)
       | none => dflt)
     | _, _ => dflt) else dflt
   | none => dflt)
 | _ => dflt
def vIdx (tm : TM) (dst : Option Nat) (st : TypeId) (x y : Operand) (k : It → Prop) (dflt : Prop) : Prop :=
 match lk st T.ty with
 | some (.string, _, _, _) => (match evT tm x, evT tm y with
   | some (.d (.v (.string ⟨⟨l⟩⟩))), some (.d (.v (.int _ j))) => NIdxS l j (fun b => kvW C.N dst [] (.d (.v (.int .u8 b.toNat))) k dflt)
   | _, _ => dflt)
 | _ => dflt
def bndW (tm : TM) (x : Option Operand) (d : Nat) (K : Int → Prop) (dflt : Prop) : Prop :=
 match x with
 | none => K (d : Int)
 | some x => (match evT tm x with
   | some (.d (.v (.int _ z))) => K z
   | _ => dflt)
def vSlice (tm : TM) (dst : Option Nat) (st : TypeId) (x : Operand) (ol oh om : Option Operand) (k : It → Prop) (dflt : Prop) : Prop :=
 match lk st T.ty with
 | some (.slice e, _, _, _) => (match lk e T.ty with
   | some (_, _, sz, _) => (match evT tm x with
     | some ux => (match ux.asSlT sz with
       | some (tg, n, cs) => (match oh, om with
         | none, some _ => dflt
         | _, _ => bndW tm ol 0 (fun lo => bndW tm oh n (fun hi => bndW tm om n (fun mx => NSl cs n sz lo hi mx (fun r ds => kvW C.N dst [] (.d (.sl tg r sz ds)) k dflt)) dflt) dflt) dflt)
       | none => dflt)
     | none => dflt)
   | none => dflt)
 | some (.string, _, _, _) => (match evT tm x, om with
   | some (.d (.v (.string ⟨⟨l⟩⟩))), none => bndW tm ol 0 (fun lo => bndW tm oh l.length (fun hi => NSlS l lo hi (fun r => kvW C.N dst [] (.d (.v (.string ⟨r.toArray⟩))) k dflt)) dflt) dflt
   | _, _ => dflt)
 | _ => dflt
def kRes (dst : Option Nat) (r : AV) (k : It → Prop) (dflt : Prop) : Prop :=
 match dst with
 | some t => bif Nat.blt t C.N then keyK T t (fun κ => match r with
   | .own _ n sz e cs => k ⟨[], some (t, .own κ n sz e cs), none, some (κ, n, sz, e), [κ], [], [], []⟩
   | .tup us => (match us with
     | .own _ n sz e cs :: rest => k ⟨[], some (t, .tup (.own κ n sz e cs :: rest)), none, some (κ, n, sz, e), [κ], [], [], []⟩
     | us => k ⟨[], some (t, .tup us), none, none, [κ], [], [], []⟩)
   | u => k ⟨[], some (t, u), none, none, [κ], [], [], []⟩) else dflt
 | none => dflt
noncomputable def vCall (tm : TM) (dst : Option Nat) (c : Call) (k : It → Prop) (dflt : Prop) : Prop :=
 match c with
 | ⟨.value (.func f), args, _⟩ => bif memB f T.mu then dflt else evLW tm args.toList (fun us => bif AV.noPtrs us then NCall P f (AV.gives us) (fun r => kRes C T dst r k dflt) else dflt) dflt
 | ⟨.value (.tmp s), args, _⟩ => (match evT tm (.tmp s) with
   | some (.d (.fn f caps)) => bif memB f T.mu then dflt else evLW tm args.toList (fun us => bif AV.noPtrs us then NCall P f (AV.gives us ++ AV.gives (caps.map AV.d)) (fun r => kRes C T dst r k dflt) else dflt) dflt
   | some (.cl f fs cs) => bif memB f T.mu then dflt else evLW tm args.toList (fun us => bif AV.noPtrs fs && AV.noPtrs us && AV.noPtrs cs then NCall P f (AV.gives fs ++ AV.gives us ++ AV.gives cs) (fun r => kRes C T dst r k dflt) else dflt) dflt
   | _ => dflt)
 | ⟨.builtin .len, ⟨[x]⟩, ⟨[st]⟩⟩ => (match lk st T.ty, evT tm x with
   | some (.string, _, _, _), some (.d (.v (.string ⟨⟨l⟩⟩))) => kvW C.N dst [] (.d (.v (.int .i64 l.length))) k dflt
   | some (.slice e, _, _, _), some ux => (match lk e T.ty with
     | some (_, _, sz, _) => (match ux.asSlT sz with
       | some (_, n, _) => kvW C.N dst [] (.d (.v (.int .i64 n))) k dflt
       | none => dflt)
     | none => dflt)
   | _, _ => dflt)
 | _ => dflt
noncomputable def vFunc (tm : TM) (dst : Option Nat) (f : FuncId) (first captured : Array Operand) (k : It → Prop) (dflt : Prop) : Prop :=
 evLW tm first.toList (fun fs => evLW tm captured.toList (fun cs => kvW C.N dst [] (.cl f fs cs) k dflt) dflt) dflt
noncomputable def itVC (o : Oper) (tm : TM) (bx : BX) (k : It → Prop) (dflt : Prop) : Prop :=
 match o.op with
 | .move x => vVal C tm o.dst x k dflt
 | .assign x => vVal C tm o.dst x k dflt
 | .pick c x y => (match evT tm c with
   | some (.d (.v (.bool b))) => NBr b (vVal C tm o.dst x k dflt) (vVal C tm o.dst y k dflt)
   | _ => dflt)
 | .binOp op xt x y _ => vBin C T tm o.dst op xt x y k dflt
 | .unOp op _ x => vNot C tm o.dst op x k dflt
 | .convert s d x => vConv C T tm o.dst s d x k dflt
 | .extract x i => vExtract C tm o.dst x i k dflt
 | .load ty x => vLoad C T tm bx o.dst ty x k dflt
 | .store ty x y => vStore T tm bx o.dst ty x y k dflt
 | .alloc ty => vAlloc C T o.dst ty k dflt
 | .box ty x => vBox C T tm o.dst ty x k dflt
 | .fieldAddr ty x i => vFieldAddr C T tm o.dst ty x i k dflt
 | .field ty x i => vField C T tm o.dst ty x i k dflt
 | .build ty ps => vBuild C T tm o.dst ty ps k dflt
 | .buildSlice st n ps => vSlit C T tm o.dst st n ps k dflt
 | .indexAddr st x y => vIdxA C T tm o.dst st x y k dflt
 | .index st x y => vIdx C T tm o.dst st x y k dflt
 | .slice st x l h m => vSlice C T tm o.dst st x l h m k dflt
 | .call c => vCall P C T tm o.dst c k dflt
 | .makeFunc (.func f) first captured => vFunc C tm o.dst f first captured k dflt
 | _ => dflt
def ocK {β : Type} (o : Option (Nat × β)) (l : List (Nat × β)) (K : List (Nat × β) → Prop) : Prop :=
 match o with
 | some x => K (x :: l)
 | none => K l
theorem ocK_eq {β : Type} {o : Option (Nat × β)} {l : List (Nat × β)} {K : List (Nat × β) → Prop} (h : ocK o l K) : K (oc o l) := by
 unfold ocK at h; split at h <;> exact h
def mtK {β : Type} (m : List (Nat × β)) (l : List (Nat × β)) (K : List (Nat × β) → Prop) : Prop :=
 match m with
 | [] => K l
 | x :: r => K ((x :: r) ++ l)
theorem mtK_eq {β : Type} {m l : List (Nat × β)} {K : List (Nat × β) → Prop} (h : mtK m l K) : K (m ++ l) := by
 unfold mtK at h; split at h <;> exact h
def addK (it : It) (tm : TM) (bx : BX) (tk : TK) (K : KS) : Prop := mtK it.mt tm fun tm => mtK it.mb bx fun bx => ocK it.tm tm fun tm' => ocK it.bx bx fun bx' => ocK it.tk tk fun tk' => K tm' bx' tk'
theorem addK_eq {it : It} {tm : TM} {bx : BX} {tk : TK} {K : KS} (h : addK it tm bx tk K) : K (AS.add ⟨tm, bx, tk⟩ it).tm (AS.add ⟨tm, bx, tk⟩ it).bx (AS.add ⟨tm, bx, tk⟩ it).tk := ocK_eq (ocK_eq (ocK_eq (mtK_eq (mtK_eq h))))
def clAll (ids : List Nat) (tm : TM) (bx : BX) : Bool :=
 match ids with
 | [] => true
 | [t] => clT t tm && clB t bx
 | l => l.all fun t => clT t tm && clB t bx
theorem clAll_ok {ids : List Nat} {tm : TM} {bx : BX} {tk : TK} (h : clAll ids tm bx = true) : ClA ids ⟨tm, bx, tk⟩ := by
 intro id hid
 unfold clAll at h
 split at h
 ·simp at hid
 ·simp at hid; subst hid; exact h
 ·exact List.all_eq_true.1 h id hid
def exAll (ids : List Nat) (it : It) (tm : TM) (bx : BX) : Bool :=
 match ids with
 | [] => true
 | l => l.all fun id => clX it id tm bx
theorem exAll_ok {it : It} {tm : TM} {bx : BX} {tk : TK} (h : exAll it.ex it tm bx = true) : AgB it ⟨tm, bx, tk⟩ ⟨tm, bx, tk⟩ := by
 refine ⟨fun _ _ => rfl, fun _ _ => rfl, fun _ _ => rfl, fun _ _ => rfl, fun id hid => ?_⟩
 unfold exAll at h
 split at h
 ·rename_i he; rw [he] at hid; cases hid
 ·exact List.all_eq_true.1 h id hid
noncomputable def shK (k : Nat) (tm : TM) (K : TM → Prop) : Prop :=
 @List.rec (Nat × AV) (fun _ => (TM → Prop) → Prop) (fun K => K []) (fun p _ ih K => match p with
  | (j, .d x) => ih (fun r => K ((j, .d x) :: r))
  | (j, .ptr a o) => ih (fun r => K ((j, .ptr a o) :: r))
  | (j, .sem φ) => ih (fun r => K ((j, .sem φ) :: r))
  | (j, .own i n sz e cs) => bif Nat.beq i k then ih (fun r => K ((j, .d (.sl true n sz cs)) :: r)) else ih (fun r => K ((j, .own i n sz e cs) :: r))
  | (j, u) => ih (fun r => K ((j, u.share k) :: r))) tm K
theorem shK_eq {k : Nat} : ∀ {tm : TM} {K : TM → Prop}, shK k tm K → K (shT k tm)
 | [], _, h => h
 | (j, u) :: r, K, h => by
   have h' : (match ((j, u) : Nat × AV) with
    | (j, .d x) => shK k r (fun r => K ((j, .d x) :: r))
    | (j, .ptr a o) => shK k r (fun r => K ((j, .ptr a o) :: r))
    | (j, .sem φ) => shK k r (fun r => K ((j, .sem φ) :: r))
    | (j, .own i n sz e cs) => bif Nat.beq i k then shK k r (fun r => K ((j, .d (.sl true n sz cs)) :: r)) else shK k r (fun r => K ((j, .own i n sz e cs) :: r))
    | (j, u) => shK k r (fun r => K ((j, u.share k) :: r))) := h
   cases u with
   | own i n sz e cs =>
     simp only at h'
     cases hb : Nat.beq i k with
     | true =>
       rw [hb] at h'
       have := shK_eq h'
       simpa only [shT, AV.share, hb] using this
     | false =>
       rw [hb] at h'
       have := shK_eq h'
       simpa only [shT, AV.share, hb] using this
   | d x => exact shK_eq (K := fun r => K ((j, .d x) :: r)) h'
   | ptr a o => exact shK_eq (K := fun r => K ((j, .ptr a o) :: r)) h'
   | agg cs => exact shK_eq (K := fun r => K ((j, (AV.agg cs).share k) :: r)) h'
   | tup cs => exact shK_eq (K := fun r => K ((j, (AV.tup cs).share k) :: r)) h'
   | sem φ => exact shK_eq (K := fun r => K ((j, (AV.sem φ).share k) :: r)) h'
   | cl f fs cs => exact shK_eq (K := fun r => K ((j, (AV.cl f fs cs).share k) :: r)) h'
   | pk a o n sz => exact shK_eq (K := fun r => K ((j, (AV.pk a o n sz).share k) :: r)) h'
noncomputable def shBK (k : Nat) (bx : BX) (K : BX → Prop) : Prop := bif clB k bx then K bx else forceL (shB k bx) K
theorem shBK_eq {k : Nat} {bx : BX} {K : BX → Prop} (h : shBK k bx K) : K (shB k bx) := by
 unfold shBK at h
 cases hb : clB k bx with
 | true => rw [hb] at h; rw [shB_clean hb]; exact h
 | false => rw [hb] at h; exact forceL_eq h
noncomputable def apVC (o : Oper) (tm : TM) (bx : BX) (tk : TK) (K : KS) (dflt : Prop) : Prop :=
 match o.op, o.dst with
 | .call ⟨.builtin .append, ⟨[s, x]⟩, ⟨[st, st']⟩⟩, some t => (match lk st T.ty with
   | some (.slice e, _, _, _) => (match lk e T.ty with
     | some (_, z, sz, by') => bif Nat.blt t C.N && Nat.beq st st' && Nat.beq z.cells.toList.length sz && Nat.blt 0 sz && Nat.ble by' 1000 then (match evT tm s, evT tm x with
       | some (.own k n sz' e' cs), some ux => (match lk k tk, ux.asSl sz with
         | some (n', sz'', e''), some (m, ds) => bif Nat.beq sz' sz && Nat.beq sz'' sz && Nat.beq e' e && Nat.beq e'' e then NApp n' n m cs ds (fun r es => shK k tm (fun tm' => shBK k bx (fun bx' => K ((t, .own k r sz e es) :: tm') bx' ((k, r, sz, e) :: tk)))) else dflt
         | _, _ => dflt)
       | some (.d (.v (.slice none 0 0))), some ux => (match ux.asSl sz with
         | some (m, ds) => keyK T t (fun κ => bif clT κ tm && clB κ bx then NApp 0 0 m [] ds (fun r es => K ((t, .own κ r sz e es) :: tm) bx ((κ, r, sz, e) :: tk)) else dflt)
         | none => dflt)
       | _, _ => dflt) else dflt
     | none => dflt)
   | _ => dflt)
 | _, _ => dflt
noncomputable def apItVC (o : Oper) (tm : TM) (bx : BX) (tk : TK) (k : It → Prop) (dflt : Prop) : Prop :=
 match o.op, o.dst with
 | .call ⟨.builtin .append, ⟨[s, x]⟩, ⟨[st, st']⟩⟩, some t => (match lk st T.ty with
   | some (.slice e, _, _, _) => (match lk e T.ty with
     | some (_, z, sz, by') => bif Nat.blt t C.N && Nat.beq st st' && Nat.beq z.cells.toList.length sz && Nat.blt 0 sz && Nat.ble by' 1000 then (match evT tm s, evT tm x with
       | some (.own i n sz' e' cs), some ux => (match lk i tk, ux.asSl sz with
         | some (n', sz'', e''), some (m, ds) => bif Nat.beq sz' sz && Nat.beq sz'' sz && Nat.beq e' e && Nat.beq e'' e then NApp n' n m cs ds (fun r es => forceL (drT i tm tm) (fun mt => forceL (drB i bx bx) (fun mb => k ⟨[], some (t, .own i r sz e es), none, some (i, r, sz, e), [], mt, mb, [i]⟩))) else dflt
         | _, _ => dflt)
       | some (.d (.v (.slice none 0 0))), some ux => (match ux.asSl sz with
         | some (m, ds) => keyK T t (fun κ => NApp 0 0 m [] ds (fun r es => k ⟨[], some (t, .own κ r sz e es), none, some (κ, r, sz, e), [κ], [], [], []⟩))
         | none => dflt)
       | _, _ => dflt) else dflt
     | none => dflt)
   | _ => dflt)
 | _, _ => dflt
noncomputable def frTK (k : Nat) (ds : List D) (tm : TM) (K : TM → Prop) : Prop :=
 @List.rec (Nat × AV) (fun _ => (TM → Prop) → Prop) (fun K => K []) (fun p _ ih K => match p with
  | (j, .d x) => ih (fun r => K ((j, .d x) :: r))
  | (j, .ptr a o) => bif Nat.beq a k then ih (fun r => K ((j, .d (.cp false (ds.drop o))) :: r)) else ih (fun r => K ((j, .ptr a o) :: r))
  | (j, .own i n sz e cs) => ih (fun r => K ((j, .own i n sz e cs) :: r))
  | (j, u) => ih (fun r => K ((j, u.frz k ds) :: r))) tm K
theorem frTK_eq {k : Nat} {ds : List D} : ∀ {tm : TM} {K : TM → Prop}, frTK k ds tm K → K (frT k ds tm)
 | [], _, h => h
 | (j, u) :: r, K, h => by
   have h' : (match ((j, u) : Nat × AV) with
    | (j, .d x) => frTK k ds r (fun r => K ((j, .d x) :: r))
    | (j, .ptr a o) => bif Nat.beq a k then frTK k ds r (fun r => K ((j, .d (.cp false (ds.drop o))) :: r)) else frTK k ds r (fun r => K ((j, .ptr a o) :: r))
    | (j, .own i n sz e cs) => frTK k ds r (fun r => K ((j, .own i n sz e cs) :: r))
    | (j, u) => frTK k ds r (fun r => K ((j, u.frz k ds) :: r))) := h
   cases u with
   | ptr a o =>
     simp only at h'
     cases hb : Nat.beq a k with
     | true =>
       rw [hb] at h'
       have := frTK_eq h'
       simpa only [frT, AV.frz, hb] using this
     | false =>
       rw [hb] at h'
       have := frTK_eq h'
       simpa only [frT, AV.frz, hb] using this
   | d x => exact frTK_eq (K := fun r => K ((j, .d x) :: r)) h'
   | own i n sz e cs => exact frTK_eq (K := fun r => K ((j, .own i n sz e cs) :: r)) h'
   | agg cs => exact frTK_eq (K := fun r => K ((j, (AV.agg cs).frz k ds) :: r)) h'
   | tup cs => exact frTK_eq (K := fun r => K ((j, (AV.tup cs).frz k ds) :: r)) h'
   | sem φ => exact frTK_eq (K := fun r => K ((j, (AV.sem φ).frz k ds) :: r)) h'
   | cl f fs cs => exact frTK_eq (K := fun r => K ((j, (AV.cl f fs cs).frz k ds) :: r)) h'
   | pk a o n sz => exact frTK_eq (K := fun r => K ((j, (AV.pk a o n sz).frz k ds) :: r)) h'
noncomputable def fzL (l : List Operand) : TM → BX → (TM → BX → Prop) → Prop :=
 @List.rec Operand (fun _ => TM → BX → (TM → BX → Prop) → Prop) (fun tm bx K => K tm bx) (fun x _ ih tm bx K => match evT tm x with
  | some (.ptr k _) => (match lk k bx with
    | some cs => (match dataOf cs with
      | some ds => forceL ds (fun ds => frTK k ds tm (fun tm' => forceL (frB k ds bx) (fun bx' => ih tm' bx' K)))
      | none => False)
    | none => False)
  | _ => ih tm bx K) l
noncomputable def fzVC (o : Oper) (tm : TM) (bx : BX) (K : TM → BX → Prop) : Prop :=
 match o.op with
 | .makeFunc (.func f) _ captured => bif memB f T.mu then K tm bx else fzL captured.toList tm bx K
 | _ => K tm bx
noncomputable def opVC (o : Oper) (tm : TM) (bx : BX) (tk : TK) (K : KS) : Prop :=
 fzVC T o tm bx fun tm bx => itVC P C T o tm bx (fun it => bif clAll it.cr tm bx && exAll it.ex it tm bx then addK it tm bx tk K else False) (apVC C T o tm bx tk K (NStep P C o tm bx tk K))
def gdVC (ops : List Oper) (o : Oper) (tm : TM) (run skip : TM → Prop) : Prop :=
 match o.guard with
 | none => run tm
 | some (j, b) => (match ops[j]? with
   | some oj => (match oj.dst with
     | some s => (match lk s tm with
       | some (.d (.v (.bool c))) => bif Nat.blt s 1000000 then NBr c ((bif b then run else skip) ((s, .d (.v (.bool true))) :: tm)) ((bif b then skip else run) ((s, .d (.v (.bool false))) :: tm)) else False
       | some (.d (.v (.tuple _))) => bif Nat.blt s 1000000 then skip tm else False
       | _ => False)
     | none => False)
   | none => False)
noncomputable def opsVC (ops : List Oper) (l : List Oper) : TM → BX → TK → KS → Prop :=
 @List.rec Oper (fun _ => TM → BX → TK → KS → Prop) (fun tm bx tk K => K tm bx tk)
  (fun o _ ih tm bx tk K => gdVC ops o tm (fun tm => opVC P C T o tm bx tk (fun tm bx tk => ih tm bx tk K))
    (fun tm => match o.dst with
      | some s => bif Nat.blt s C.N then ih ((s, .d (.v undef)) :: tm) bx tk K else False
      | none => ih tm bx tk K)) l
noncomputable def drVC (ops : List Oper) (l : List Oper) : TM → BX → TK → (List It → KS) → (List It → Oper → KS) → Prop :=
 @List.rec Oper (fun _ => TM → BX → TK → (List It → KS) → (List It → Oper → KS) → Prop) (fun tm bx tk K _ => K [] tm bx tk)
  (fun o rest ih tm bx tk K KL =>
    (fun (run skip : Prop) => match o.guard with
      | none => run
      | some (j, b) => (match ops[j]? with
        | some oj => (match oj.dst with
          | some s => (match lk s tm with
            | some (.d (.v (.bool c))) => bif Nat.blt s 1000000 then NBr c (bif b then run else skip) (bif b then skip else run) else False
            | some (.d (.v (.tuple _))) => bif Nat.blt s 1000000 then skip else False
            | _ => False)
          | none => False)
        | none => False))
    (itVC P C T o tm bx (fun it => addK it tm bx tk (fun tm bx tk => ih tm bx tk (fun its => K (it :: its)) (fun its => KL (it :: its)))) (match rest with
      | [] => KL [] o tm bx tk
      | _ :: _ => apItVC C T o tm bx tk (fun it => addK it tm bx tk (fun tm bx tk => ih tm bx tk (fun its => K (it :: its)) (fun its => KL (it :: its)))) (NLa P C o tm bx tk (fun it => addK it tm bx tk (fun tm bx tk => ih tm bx tk (fun its => K (it :: its)) (fun its => KL (it :: its)))))))
    (match o.dst with
      | some s => bif Nat.blt s C.N then ih ((s, .d (.v undef)) :: tm) bx tk (fun its => K (⟨[], some (s, .d (.v undef)), none, none, [], [], [], []⟩ :: its)) (fun its => KL (⟨[], some (s, .d (.v undef)), none, none, [], [], [], []⟩ :: its)) else False
      | none => ih tm bx tk (fun its => K (⟨[], none, none, none, [], [], [], []⟩ :: its)) (fun its => KL (⟨[], none, none, none, [], [], [], []⟩ :: its)))) l
def condVC (tm : TM) (c : Operand) (a b : TM → Prop) : Prop :=
 match c with
 | .tmp t => (match evT tm (.tmp t) with
   | some (.d (.v (.bool v))) => NBr v (a ((t, .d (.v (.bool true))) :: tm)) (b ((t, .d (.v (.bool false))) :: tm))
   | _ => False)
 | .const (.bool v) => NBr v (a tm) (b tm)
 | _ => False
noncomputable def codeVC (c : Code) : KS → (Nat → KS) → KS → KS :=
 @Code.rec (fun _ => KS → (Nat → KS) → KS → KS)
  (fun kn _ _ => kn)
  (fun _ ops draw kn _ _ tm bx tk => bif draw then drVC P C T ops.toList ops.toList tm bx tk (fun its tm' bx' tk' => NFact (aheadB ops = true ∧ drawOk ops.toList its ⟨tm, bx, tk⟩ = true) (kn tm' bx' tk')) (fun its o tm' bx' tk' => NFact (aheadB ops = true ∧ drawOkL ops.toList.dropLast o its ⟨tm, bx, tk⟩ = true) (opsVC P C T ops.toList [o] tm' bx' tk' kn)) else opsVC P C T ops.toList ops.toList tm bx tk kn)
  (fun _ _ ihx ihy kn ke kr => ihx (ihy kn ke kr) ke kr)
  (fun c _ _ iht ihe kn ke kr tm bx tk => condVC tm c (fun tm => iht kn ke kr tm bx tk) (fun tm => ihe kn ke kr tm bx tk))
  (fun id _ ih kn ke kr => ih kn (fun id' => bif Nat.beq id' id then kn else ke id') kr)
  (fun _ ih _ ke kr tm bx tk => NLoop tm bx tk (fun kn => ih kn ke kr))
  (fun f ps a b _ _ kn ke kr tm bx tk => NCode P C (.rangeFunc f ps a b) tm bx tk kn ke kr)
  (fun id _ ke _ => ke id)
  (fun _ ih => ih)
  (fun _ kn _ _ => kn)
  (fun _ _ _ _ _ _ _ => False)
  (fun _ _ kr => kr)
  (fun _ _ _ _ _ _ _ => False) c
noncomputable def resW (tm : TM) (bx : BX) (rs : List ResultVar) (K : List AV → Prop) : Prop :=
 @List.rec ResultVar (fun _ => (List AV → Prop) → Prop) (fun K => K []) (fun r _ ih K => match r with
  | .tmp t => (match evT tm (.tmp t) with
    | some u => ih (fun us => K (u :: us))
    | none => False)
  | .cell p ty => (match evT tm (.tmp p), lk ty T.ty with
    | some (.ptr b off), some (d, _, sz, _) => (match lk b bx with
      | some cs => bif aggD d then forceL ((cs.drop off).take sz) (fun us' => bif Nat.beq us'.length sz then ih (fun us => K (.agg us' :: us)) else False) else (match cs[off]? with
        | some u => ih (fun us => K (u :: us))
        | none => False)
      | none => False)
    | _, _ => False)) rs K
def endW (tm : TM) (bx : BX) (tk : TK) (Φ : AV → Prop) (us : List AV) : Prop :=
 match us with
 | [u] => NEnd tm bx tk u Φ
 | us => NEnd tm bx tk (.tup us) Φ
noncomputable def endK (rs : Array ResultVar) (Φ : AV → Prop) : KS := fun tm bx tk => resW T tm bx rs.toList (endW tm bx tk Φ)
end
end Go.Proofs.YtblabcopgeobgaaGreatDoor

namespace Go.Proofs.YtblabcopgeobgaaGreatDoor
open Go.RowKit
section
variable {P : Program} {C : Cx} {T : Tab} {o : Oper} {tm : TM} {bx : BX} {tk : TK} {k : It → Prop} {dflt : Prop}
theorem val_ok {dst : Option Nat} {x : Operand} (h : vVal C tm dst x k dflt) : (∃ t u, dst = some t ∧ t < C.N ∧ AS.eval ⟨tm, bx, tk⟩ x = some u ∧ k ⟨[], some (t, u), none, none, [], [], [], []⟩) ∨ dflt := by
 unfold vVal at h
 split at h
 ·rename_i u hu
  rcases kvW_ok h with ⟨t, h1, h2, h3⟩ | h
  ·exact .inl ⟨t, u, h1, h2, evT_eq hu, h3⟩
  ·exact .inr h
 ·exact .inr h
theorem binI_ok {op : BinOp} {p p' : IntKind} {m n : Int} {xt : TypeId} {x y : Operand} {kz : Value → Prop} (h : vBinI op p p' m n kz dflt) : (∃ z, (∀ w, (do eqGuard op xt x y (.int p m) (.int p' n); binOp op xt (.int p m) (.int p' n) : Sem Value).run P w = .ok z w) ∧ kz z) ∨ dflt := by
 unfold vBinI at h
 cases hs : sameK p p' with
 | true =>
   obtain rfl := sameK_ok hs
   simp only [hs, cond_true] at h
   split at h
   case h_1 => exact .inl ⟨_, fun w => by simp [eqGuard, binOp, Op.intArith, go_sem], h.h _ rfl⟩
   case h_2 => exact .inl ⟨_, fun w => by simp [eqGuard, binOp, Op.intArith, go_sem], h.h _ rfl⟩
   case h_3 => exact .inl ⟨_, fun w => by simp [eqGuard, binOp, Op.intArith, go_sem], h.h _ rfl⟩
   case h_4 => exact .inl ⟨_, fun w => by simp [eqGuard, binOp, Op.intBits, go_sem], h.h _ rfl⟩
   case h_5 => exact .inl ⟨_, fun w => by simp [eqGuard, binOp, Op.intBits, go_sem], h.h _ rfl⟩
   case h_6 => exact .inl ⟨_, fun w => by have := h.h; simp [eqGuard, binOp, Op.intDiv, go_sem, this], h.k.h _ rfl⟩
   case h_7 => exact .inl ⟨_, fun w => by have := h.h; simp [eqGuard, binOp, Op.intDiv, go_sem, this], h.k.h _ rfl⟩
   case h_8 => exact .inl ⟨_, fun w => by have := h.h; simp [eqGuard, binOp, Op.shift, go_sem, Int.not_lt.2 this], h.k.h _ rfl⟩
   case h_9 => exact .inl ⟨_, fun w => by have := h.h; simp [eqGuard, binOp, Op.shift, go_sem, Int.not_lt.2 this], h.k.h _ rfl⟩
   case h_10 =>
    split at h
    ·rename_i z hz
     refine .inl ⟨z, fun w => ?_, h⟩
     cases op <;> simp only [binI, Option.some.injEq, reduceCtorEq] at hz <;> subst hz <;> simp [eqGuard, binOp, Op.intArith, Op.intCmp, Op.intBits, go_sem]
    ·exact .inr h
 | false =>
   simp only [hs, cond_false] at h
   split at h
   case h_8 => exact .inl ⟨_, fun w => by have := h.h; simp [eqGuard, binOp, Op.shift, go_sem, Int.not_lt.2 this], h.k.h _ rfl⟩
   case h_9 => exact .inl ⟨_, fun w => by have := h.h; simp [eqGuard, binOp, Op.shift, go_sem, Int.not_lt.2 this], h.k.h _ rfl⟩
   all_goals exact .inr h
theorem binV_ok (hT : TabOk P T) {op : BinOp} {p q : Value} {xt : TypeId} {x y : Operand} {kz : Value → Prop} (h : vBinV T op xt p q kz dflt) : (∃ z, (∀ w, (do eqGuard op xt x y p q; binOp op xt p q : Sem Value).run P w = .ok z w) ∧ kz z) ∨ dflt := by
 unfold vBinV at h
 split at h
 ·exact binI_ok h
 ·rename_i a b
  split at h
  ·rename_i hl
   have hu := (hT.ty hl).u
   split at h
   ·exact .inl ⟨_, fun w => by simp [eqGuard, binOp, run_beql a b hu], h⟩
   ·exact .inl ⟨_, fun w => by simp [eqGuard, binOp, run_beql a b hu], h⟩
   ·exact .inr h
  ·exact .inr h
 ·rename_i l m
  split at h
  ·exact .inl ⟨_, fun w => by simp [eqGuard, binOp, Op.stringOp, go_sem], h⟩
  ·exact .inl ⟨_, fun w => by simp [eqGuard, binOp, Op.stringOp, go_sem], h⟩
  ·refine .inl ⟨_, fun w => ?_, h.k⟩
   have hb := h.h
   have h1 : ¬ ((l.length : Int) + (m.length : Int)) > 9223372036854775807 := by omega
   have h2 : (⟨⟨l⟩⟩ : ByteArray) ++ ⟨⟨m⟩⟩ = ⟨(l ++ m).toArray⟩ := by
    apply ByteArray.ext
    simp
   have h3 : (⟨⟨l⟩⟩ : ByteArray).size = l.length := rfl
   have h4 : (⟨⟨m⟩⟩ : ByteArray).size = m.length := rfl
   have h5 : IntKind.i64.max = 9223372036854775807 := by decide
   simp only [eqGuard, binOp, Op.stringOp, h2, h3, h4, h5, Int.natCast_add, if_neg h1]
   rfl
  ·exact .inr h
 ·exact .inr h
theorem it_bin (hT : TabOk P T) {op : BinOp} {xt yt : TypeId} {x y : Operand} (ho : o.op = .binOp op xt x y yt) (h : vBin C T tm o.dst op xt x y k dflt) : (∃ it, LA P C o it ⟨tm, bx, tk⟩ ∧ k it) ∨ dflt := by
 unfold vBin at h
 split at h
 ·rename_i p q hp hq
  rcases binV_ok hT (x := x) (y := y) h with ⟨z, hz, h⟩ | h
  ·rcases kvW_ok h with ⟨t, h1, h2, h3⟩ | h
   ·exact .inl ⟨_, la_bin ho h1 h2 (evT_eq hp) (evT_eq hq) hz, h3⟩
   ·exact .inr h
  ·exact .inr h
 ·exact .inr h
theorem it_not {op : UnOp} {xt : TypeId} {x : Operand} (ho : o.op = .unOp op xt x) (h : vNot C tm o.dst op x k dflt) : (∃ it, LA P C o it ⟨tm, bx, tk⟩ ∧ k it) ∨ dflt := by
 unfold vNot at h
 split at h
 ·rename_i b hp
  rcases kvW_ok h with ⟨t, h1, h2, h3⟩ | h
  ·exact .inl ⟨_, la_not ho h1 h2 (evT_eq hp), h3⟩
  ·exact .inr h
 ·exact .inr h
theorem it_conv (hT : TabOk P T) {s d : TypeId} {x : Operand} (ho : o.op = .convert s d x) (h : vConv C T tm o.dst s d x k dflt) : (∃ it, LA P C o it ⟨tm, bx, tk⟩ ∧ k it) ∨ dflt := by
 unfold vConv at h
 split at h
 ·rename_i ux hux
  split at h
  ·rename_i ki _ _ _ hd
   split at h
   ·rename_i m e hs
    obtain ⟨ds, _, _, _⟩ := e
    rcases kvW_ok (h.h _ rfl) with ⟨t, h1, h2, h3⟩ | h
    ·exact .inl ⟨_, la_conv ho h1 h2 (hT.ty hs).u (hT.ty hd).u (evT_eq hux) rfl, h3⟩
    ·exact .inr h
   ·exact .inr h
  ·rename_i hd
   split at h
   ·rename_i hs
    split at h
    ·rcases kvW_ok h with ⟨t, h1, h2, h3⟩ | h
     ·exact .inl ⟨⟨[], some (t, .d (.v (.string _))), none, none, [], [], [], []⟩, fun _ hTt _ _ => step_strS ho h1 h2 (hT.ty hs).u (hT.ty hd).u (tr hTt (by rw [ho]; simp [Op.operands]) (evT_eq hux)), h3⟩
     ·exact .inr h
    ·exact .inr h
   ·rename_i e _ _ _ hs
    unfold vConvS at h
    split at h
    ·rename_i he
     split at h
     ·rename_i tg n cs hsl
      obtain ⟨l, hl, h⟩ := h.h
      rcases kvW_ok h with ⟨t, h1, h2, h3⟩ | h
      ·exact .inl ⟨_, la_str ho h1 h2 (hT.ty hs).u (hT.ty he).u (hT.ty hd).u (evT_eq hux) hsl hl, h3⟩
      ·exact .inr h
     ·exact .inr h
    ·exact .inr h
   ·exact .inr h
  ·exact .inr h
 ·exact .inr h
theorem it_extract {x : Operand} {i : Nat} (ho : o.op = .extract x i) (h : vExtract C tm o.dst x i k dflt) : (∃ it, LA P C o it ⟨tm, bx, tk⟩ ∧ k it) ∨ dflt := by
 unfold vExtract at h
 split at h
 ·rename_i us hp
  split at h
  ·rename_i u hu
   rcases kvW_ok h with ⟨t, h1, h2, h3⟩ | h
   ·exact .inl ⟨_, la_extract ho h1 h2 (evT_eq hp) hu, h3⟩
   ·exact .inr h
  ·exact .inr h
 ·exact .inr h
theorem it_load (hT : TabOk P T) {ty : TypeId} {x : Operand} (ho : o.op = .load ty x) (h : vLoad C T tm bx o.dst ty x k dflt) : (∃ it, LA P C o it ⟨tm, bx, tk⟩ ∧ k it) ∨ dflt := by
 unfold vLoad at h
 split at h
 ·rename_i d z sz by' hty
  split at h
  ·rename_i b off hx
   split at h
   ·rename_i cs hcs
    cases hD : aggD d with
    | true =>
      rw [hD] at h
      have h := forceL_eq h
      cases hl : Nat.beq ((cs.drop off).take sz).length sz with
      | true =>
        rw [hl] at h
        rcases kvW_ok h with ⟨t, h1, h2, h3⟩ | h
        ·exact .inl ⟨_, la_loadN ho h1 h2 (evT_eq hx) hcs (hT.ty hty) hD rfl (Nat.eq_of_beq_eq_true hl), h3⟩
        ·exact .inr h
      | false => rw [hl] at h; exact .inr h
    | false =>
      rw [hD] at h
      simp only [cond_false] at h
      split at h
      ·rename_i u hu
       rcases kvW_ok h with ⟨t, h1, h2, h3⟩ | h
       ·exact .inl ⟨_, la_load ho h1 h2 (evT_eq hx) hcs (hT.ty hty) hD hu, h3⟩
       ·exact .inr h
      ·exact .inr h
   ·exact .inr h
  ·rename_i tg ds hx
   cases hD : aggD d with
   | true =>
     rw [hD] at h
     simp only [cond_true] at h
     cases hl : Nat.beq ds.length sz with
     | true =>
       rw [hl] at h
       have h := forceL_eq h
       rcases kvW_ok h with ⟨t, h1, h2, h3⟩ | h
       ·exact .inl ⟨_, la_loadCN ho h1 h2 (evT_eq hx) (hT.ty hty) hD (Nat.eq_of_beq_eq_true hl) rfl, h3⟩
       ·exact .inr h
     | false => rw [hl] at h; exact .inr h
   | false =>
     rw [hD] at h
     simp only [cond_false] at h
     split at h
     ·rename_i u r
      rcases kvW_ok h with ⟨t, h1, h2, h3⟩ | h
      ·exact .inl ⟨_, la_loadC ho h1 h2 (evT_eq hx) (hT.ty hty) hD rfl, h3⟩
      ·exact .inr h
     ·exact .inr h
  ·exact .inr h
 ·exact .inr h
theorem it_store (hT : TabOk P T) {ty : TypeId} {x y : Operand} (ho : o.op = .store ty x y) (h : vStore T tm bx o.dst ty x y k dflt) : (∃ it, LA P C o it ⟨tm, bx, tk⟩ ∧ k it) ∨ dflt := by
 unfold vStore at h
 split at h
 ·rename_i d z sz by' hd hty
  split at h
  ·rename_i b off u hx hy
   split at h
   ·rename_i cs hcs
    cases hc : (u.flat && Nat.beq u.cells.length sz && Nat.ble (off + sz) cs.length) with
    | true =>
      rw [hc] at h
      have h := forceL_eq h
      simp only [Bool.and_eq_true] at hc
      exact .inl ⟨_, la_store ho hd (evT_eq hx) hcs (evT_eq hy) (hT.ty hty) hc.1.1 (Nat.eq_of_beq_eq_true hc.1.2) (leN hc.2), h⟩
    | false => rw [hc] at h; exact .inr h
   ·exact .inr h
  ·exact .inr h
 ·exact .inr h
theorem it_alloc (hT : TabOk P T) {ty : TypeId} (ho : o.op = .alloc ty) (h : vAlloc C T o.dst ty k dflt) : (∃ it, LA P C o it ⟨tm, bx, tk⟩ ∧ k it) ∨ dflt := by
 unfold vAlloc at h
 split at h
 ·rename_i t d z sz by' hd hty
  cases hc : Nat.blt t C.N with
  | true =>
    rw [hc] at h
    simp only [cond_true] at h
    obtain ⟨κ, h⟩ := keyK_ok h
    exact .inl ⟨_, la_alloc ho hd (ltN hc) (hT.ty hty) rfl, forceL_eq h⟩
  | false => rw [hc] at h; exact .inr h
 ·exact .inr h
theorem it_box (hT : TabOk P T) {ty : TypeId} {x : Operand} (ho : o.op = .box ty x) (h : vBox C T tm o.dst ty x k dflt) : (∃ it, LA P C o it ⟨tm, bx, tk⟩ ∧ k it) ∨ dflt := by
 unfold vBox at h
 split at h
 ·rename_i t e u hd hty hx
  obtain ⟨d, z, sz, by'⟩ := e
  cases hc : (Nat.blt t C.N && u.flat) with
  | true =>
    rw [hc] at h
    simp only [cond_true] at h
    simp only [Bool.and_eq_true] at hc
    obtain ⟨κ, h⟩ := keyK_ok h
    cases hk : u.clean κ with
    | true => rw [hk] at h; exact .inl ⟨_, la_box ho hd (ltN hc.1) (evT_eq hx) (hT.ty hty) hc.2 hk, forceL_eq h⟩
    | false => rw [hk] at h; exact .inr h
  | false => rw [hc] at h; exact .inr h
 ·exact .inr h
theorem it_fieldAddr (hT : TabOk P T) {ty : TypeId} {x : Operand} {i : Nat} (ho : o.op = .fieldAddr ty x i) (h : vFieldAddr C T tm o.dst ty x i k dflt) : (∃ it, LA P C o it ⟨tm, bx, tk⟩ ∧ k it) ∨ dflt := by
 unfold vFieldAddr at h
 split at h
 ·rename_i fl hfl
  split at h
  ·rename_i off sz ag hf
   cases hc : Nat.blt 0 sz with
   | true =>
     rw [hc] at h
     simp only [cond_true] at h
     split at h
     ·rename_i b p hx
      rcases kvW_ok h with ⟨t, h1, h2, h3⟩ | h
      ·exact .inl ⟨_, la_fieldAddr ho h1 h2 (hT.fd hfl hf) (ltN hc) (evT_eq hx), h3⟩
      ·exact .inr h
     ·rename_i tg ds hx
      rcases kvW_ok (forceL_eq h) with ⟨t, h1, h2, h3⟩ | h
      ·exact .inl ⟨_, la_fieldAddrC ho h1 h2 (hT.fd hfl hf) (ltN hc) (evT_eq hx) rfl, h3⟩
      ·exact .inr h
     ·exact .inr h
   | false => rw [hc] at h; exact .inr h
  ·exact .inr h
 ·exact .inr h
theorem it_field (hT : TabOk P T) {ty : TypeId} {x : Operand} {i : Nat} (ho : o.op = .field ty x i) (h : vField C T tm o.dst ty x i k dflt) : (∃ it, LA P C o it ⟨tm, bx, tk⟩ ∧ k it) ∨ dflt := by
 unfold vField at h
 split at h
 ·rename_i fl hfl
  split at h
  ·rename_i off sz ag hf
   split at h
   ·rename_i us hx
    cases ag with
    | true =>
      have h := forceL_eq h
      rcases kvW_ok h with ⟨t, h1, h2, h3⟩ | h
      ·exact .inl ⟨_, la_fieldN ho h1 h2 (hT.fd hfl hf) (evT_eq hx) rfl, h3⟩
      ·exact .inr h
    | false =>
      simp only [cond_false] at h
      split at h
      ·rename_i u hu
       rcases kvW_ok h with ⟨t, h1, h2, h3⟩ | h
       ·exact .inl ⟨_, la_field ho h1 h2 (hT.fd hfl hf) (evT_eq hx) hu, h3⟩
       ·exact .inr h
      ·exact .inr h
   ·exact .inr h
  ·exact .inr h
 ·exact .inr h
theorem it_build (hT : TabOk P T) {ty : TypeId} {ps : Array (Nat × Operand)} (ho : o.op = .build ty ps) (h : vBuild C T tm o.dst ty ps k dflt) : (∃ it, LA P C o it ⟨tm, bx, tk⟩ ∧ k it) ∨ dflt := by
 unfold vBuild at h
 split at h
 ·rename_i d z sz by' pl hty hst
  rcases evPW_ok (bx := bx) (tk := tk) h with ⟨us, h1, h⟩ | h
  ·split at h
   ·rename_i cs hcs
    rcases kvW_ok (forceL_eq h) with ⟨t, k1, k2, k3⟩ | h
    ·exact .inl ⟨_, la_build ho k1 k2 (hT.ty hty) (hT.st hst) rfl h1 hcs, k3⟩
    ·exact .inr h
   ·exact .inr h
  ·exact .inr h
 ·exact .inr h
theorem it_slit (hT : TabOk P T) {st : TypeId} {n : Nat} {ps : Array (Nat × Operand)} (ho : o.op = .buildSlice st n ps) (h : vSlit C T tm o.dst st n ps k dflt) : (∃ it, LA P C o it ⟨tm, bx, tk⟩ ∧ k it) ∨ dflt := by
 unfold vSlit at h
 split at h
 ·rename_i t e z0 sz0 by0 hd hst
  split at h
  ·rename_i d z sz by' he
   cases hc : (Nat.blt t C.N && Nat.ble (n * sz) 1000 && Nat.ble n 1000) with
   | true =>
     rw [hc] at h
     simp only [Bool.and_eq_true] at hc
     rcases evPW_ok (bx := bx) (tk := tk) h with ⟨us, h1, h⟩ | h
     ·split at h
      ·rename_i cs hcs
       split at h
       ·rename_i ds hds
        cases ho1 : ones cs with
        | true =>
          rw [ho1] at h
          simp only [cond_true] at h
          obtain ⟨κ, h⟩ := keyK_ok h
          exact .inl ⟨_, la_slit ho hd (ltN hc.1.1) (hT.ty hst) (hT.ty he) h1 hcs hds ho1 (leN hc.1.2) (leN hc.2), forceL_eq h⟩
        | false => rw [ho1] at h; exact .inr h
       ·exact .inr h
      ·exact .inr h
     ·exact .inr h
   | false => rw [hc] at h; exact .inr h
  ·exact .inr h
 ·exact .inr h
theorem it_idxA (hT : TabOk P T) {st : TypeId} {x y : Operand} (ho : o.op = .indexAddr st x y) (h : vIdxA C T tm o.dst st x y k dflt) : (∃ it, LA P C o it ⟨tm, bx, tk⟩ ∧ k it) ∨ dflt := by
 unfold vIdxA at h
 split at h
 ·rename_i e z0 sz0 by0 hst
  split at h
  ·rename_i d z sz by' he
   cases hc : Nat.blt 0 sz with
   | true =>
     rw [hc] at h
     simp only [cond_true] at h
     split at h
     ·rename_i ux ik j hx hy
      split at h
      ·rename_i tg n cs hux
       obtain ⟨i, ds, e1, e2, e3, h⟩ := h.h
       rcases kvW_ok h with ⟨t, k1, k2, k3⟩ | h
       ·exact .inl ⟨_, la_idx ho k1 k2 (hT.ty hst).u (hT.ty he) (evT_eq hx) hux (evT_eq hy) e1 e2 (ltN hc) e3, k3⟩
       ·exact .inr h
      ·exact .inr h
     ·exact .inr h
   | false => rw [hc] at h; exact .inr h
  ·exact .inr h
 ·exact .inr h
theorem it_idx (hT : TabOk P T) {st : TypeId} {x y : Operand} (ho : o.op = .index st x y) (h : vIdx C T tm o.dst st x y k dflt) : (∃ it, LA P C o it ⟨tm, bx, tk⟩ ∧ k it) ∨ dflt := by
 unfold vIdx at h
 split at h
 ·rename_i hst
  split at h
  ·rename_i l ik j hx hy
   obtain ⟨i, b, e1, e2, h⟩ := h.h
   rcases kvW_ok h with ⟨t, k1, k2, k3⟩ | h
   ·exact .inl ⟨_, la_idxS ho k1 k2 (hT.ty hst).u (evT_eq hx) (evT_eq hy) e1 e2, k3⟩
   ·exact .inr h
  ·exact .inr h
 ·exact .inr h
theorem bndW_ok {x : Option Operand} {d : Nat} {K : Int → Prop} (h : bndW tm x d K dflt) : (∃ z, (∀ n : Nat, z = (n : Int) → Bnd ⟨tm, bx, tk⟩ x d n) ∧ K z) ∨ dflt := by
 unfold bndW at h
 split at h
 ·exact .inl ⟨_, fun n hn => by unfold Bnd; omega, h⟩
 ·split at h
  ·rename_i ik z hx
   exact .inl ⟨z, fun n hn => ⟨_, z, evT_eq hx, hn⟩, h⟩
  ·exact .inr h
theorem it_slice (hT : TabOk P T) {st : TypeId} {x : Operand} {ol oh om : Option Operand} (ho : o.op = .slice st x ol oh om) (h : vSlice C T tm o.dst st x ol oh om k dflt) : (∃ it, LA P C o it ⟨tm, bx, tk⟩ ∧ k it) ∨ dflt := by
 unfold vSlice at h
 split at h
 ·rename_i e z0 sz0 by0 hst
  split at h
  ·rename_i d z sz by' he
   split at h
   ·rename_i ux hx
    split at h
    ·rename_i tg n cs hux
     split at h
     ·exact .inr h
     ·rename_i hno
      rcases bndW_ok (bx := bx) (tk := tk) h with ⟨lo, b1, h⟩ | h
      ·rcases bndW_ok (bx := bx) (tk := tk) h with ⟨hi, b2, h⟩ | h
       ·rcases bndW_ok (bx := bx) (tk := tk) h with ⟨mx, b3, h⟩ | h
        ·obtain ⟨l', h', m', r, ds, e1, e2, e3, e4, e5, e6, rfl, e7, h⟩ := h.h
         rcases kvW_ok h with ⟨t, k1, k2, k3⟩ | h
         ·refine .inl ⟨_, la_slice ho k1 k2 (hT.ty hst).u (hT.ty he) (evT_eq hx) hux (b1 _ e1) (b2 _ e2) (b3 _ e3) (fun hn => ?_) e4 e5 e6 e7, k3⟩
          cases om with
          | none => rfl
          | some m => exact absurd rfl (hno m hn)
         ·exact .inr h
        ·exact .inr h
       ·exact .inr h
      ·exact .inr h
    ·exact .inr h
   ·exact .inr h
  ·exact .inr h
 ·rename_i hst
  split at h
  ·rename_i l hx
   rcases bndW_ok (bx := bx) (tk := tk) h with ⟨lo, b1, h⟩ | h
   ·rcases bndW_ok (bx := bx) (tk := tk) h with ⟨hi, b2, h⟩ | h
    ·obtain ⟨l', h', r, e1, e2, e4, e5, e7, h⟩ := h.h
     rcases kvW_ok h with ⟨t, k1, k2, k3⟩ | h
     ·exact .inl ⟨⟨[], some (t, .d (.v (.string ⟨r.toArray⟩))), none, none, [], [], [], []⟩, fun _ hTt _ _ => step_sliceS ho k1 k2 (hT.ty hst).u (tr hTt (by rw [ho]; simp [Op.operands]) (evT_eq hx)) (trB hTt (fun y e => by rw [ho, e]; simp [Op.operands]) (b1 _ e1)) (trB hTt (fun y e => by rw [ho, e]; simp [Op.operands]) (b2 _ e2)) e4 e5 e7, k3⟩
     ·exact .inr h
    ·exact .inr h
   ·exact .inr h
  ·exact .inr h
 ·exact .inr h
theorem kRes_ok {dst : Option Nat} {r : AV} (h : kRes C T dst r k dflt) : (∃ t κ, dst = some t ∧ t < C.N ∧ k ⟨[], some (t, r.ren κ), none, r.tok.map fun x => (κ, x), [κ], [], [], []⟩) ∨ dflt := by
 unfold kRes at h
 split at h
 ·rename_i t
  cases hc : Nat.blt t C.N with
  | true =>
    rw [hc] at h
    simp only [cond_true] at h
    obtain ⟨κ, h⟩ := keyK_ok h
    refine .inl ⟨t, κ, rfl, ltN hc, ?_⟩
    cases r with
    | own => exact h
    | tup us =>
      cases us with
      | nil => exact h
      | cons u r => cases u <;> exact h
    | d => exact h
    | ptr => exact h
    | agg => exact h
    | sem => exact h
    | cl => exact h
    | pk => exact h
  | false => rw [hc] at h; exact .inr h
 ·exact .inr h
theorem it_call (hT : TabOk P T) {c : Call} (ho : o.op = .call c) (h : vCall P C T tm o.dst c k dflt) : (∃ it, LA P C o it ⟨tm, bx, tk⟩ ∧ k it) ∨ dflt := by
 unfold vCall at h
 split at h
 ·rename_i f args ats
  cases hmu : memB f T.mu with
  | true => rw [hmu] at h; exact .inr h
  | false =>
  rw [hmu] at h
  rcases evLW_ok (bx := bx) (tk := tk) h with ⟨us, h1, h⟩ | h
  ·cases hn : AV.noPtrs us with
   | true =>
     rw [hn] at h
     obtain ⟨r, hr, h⟩ := h.h
     rcases kRes_ok h with ⟨t, κ, k1, k2, k3⟩ | h
     ·exact .inl ⟨_, la_call ho k1 k2 h1 hn rfl hr, k3⟩
     ·exact .inr h
   | false => rw [hn] at h; exact .inr h
  ·exact .inr h
 ·rename_i s args ats
  split at h
  ·rename_i f caps hs
   cases hmu : memB f T.mu with
   | true => rw [hmu] at h; exact .inr h
   | false =>
   rw [hmu] at h
   rcases evLW_ok (bx := bx) (tk := tk) h with ⟨us, h1, h⟩ | h
   ·cases hn : AV.noPtrs us with
    | true =>
      rw [hn] at h
      obtain ⟨r, hr, h⟩ := h.h
      rcases kRes_ok h with ⟨t, κ, k1, k2, k3⟩ | h
      ·exact .inl ⟨_, la_callV ho k1 k2 (evT_eq hs) h1 hn rfl hr, k3⟩
      ·exact .inr h
    | false => rw [hn] at h; exact .inr h
   ·exact .inr h
  ·rename_i f fs cs hs
   cases hmu : memB f T.mu with
   | true => rw [hmu] at h; exact .inr h
   | false =>
   rw [hmu] at h
   rcases evLW_ok (bx := bx) (tk := tk) h with ⟨us, h1, h⟩ | h
   ·cases hn : (AV.noPtrs fs && AV.noPtrs us && AV.noPtrs cs) with
    | true =>
      rw [hn] at h
      obtain ⟨r, hr, h⟩ := h.h
      rcases kRes_ok h with ⟨t, κ, k1, k2, k3⟩ | h
      ·exact .inl ⟨_, la_callC ho k1 k2 (evT_eq hs) h1 hn rfl hr, k3⟩
      ·exact .inr h
    | false => rw [hn] at h; exact .inr h
   ·exact .inr h
  ·exact .inr h
 ·rename_i x st
  split at h
  ·rename_i l hst hx
   rcases kvW_ok h with ⟨t, k1, k2, k3⟩ | h
   ·exact .inl ⟨_, la_lenS ho k1 k2 (hT.ty hst).u (evT_eq hx), k3⟩
   ·exact .inr h
  ·rename_i e z0 sz0 by0 ux hst hx
   split at h
   ·rename_i d z sz by' he
    split at h
    ·rename_i tg n cs hux
     rcases kvW_ok h with ⟨t, k1, k2, k3⟩ | h
     ·exact .inl ⟨_, la_len ho k1 k2 (hT.ty hst).u (evT_eq hx) hux, k3⟩
     ·exact .inr h
    ·exact .inr h
   ·exact .inr h
  ·exact .inr h
 ·exact .inr h
theorem it_func {f : FuncId} {first captured : Array Operand} (ho : o.op = .makeFunc (.func f) first captured) (h : vFunc C tm o.dst f first captured k dflt) : (∃ it, LA P C o it ⟨tm, bx, tk⟩ ∧ k it) ∨ dflt := by
 unfold vFunc at h
 rcases evLW_ok (bx := bx) (tk := tk) h with ⟨fs, h1, h⟩ | h
 ·rcases evLW_ok (bx := bx) (tk := tk) h with ⟨cs, h2, h⟩ | h
  ·rcases kvW_ok h with ⟨t, k1, k2, k3⟩ | h
   ·exact .inl ⟨_, la_makeFunc ho k1 k2 h1 h2, k3⟩
   ·exact .inr h
  ·exact .inr h
 ·exact .inr h
theorem itVC_ok (hT : TabOk P T) (h : itVC P C T o tm bx k dflt) : (∃ it, LA P C o it ⟨tm, bx, tk⟩ ∧ k it) ∨ dflt := by
 unfold itVC at h
 split at h
 ·rename_i x ho
  rcases val_ok (bx := bx) (tk := tk) h with ⟨t, u, h1, h2, h3, h4⟩ | h
  ·exact .inl ⟨_, la_move ho h1 h2 h3, h4⟩
  ·exact .inr h
 ·rename_i x ho
  rcases val_ok (bx := bx) (tk := tk) h with ⟨t, u, h1, h2, h3, h4⟩ | h
  ·exact .inl ⟨_, la_assign ho h1 h2 h3, h4⟩
  ·exact .inr h
 ·rename_i c x y ho
  split at h
  ·rename_i b hc
   cases hb : b with
   | true =>
     rcases val_ok (bx := bx) (tk := tk) (h.t hb) with ⟨t, u, h1, h2, h3, h4⟩ | h
     ·exact .inl ⟨_, la_pick (b := true) ho h1 h2 (evT_eq hc) hb h3, h4⟩
     ·exact .inr h
   | false =>
     rcases val_ok (bx := bx) (tk := tk) (h.f hb) with ⟨t, u, h1, h2, h3, h4⟩ | h
     ·exact .inl ⟨_, la_pick (b := false) ho h1 h2 (evT_eq hc) hb h3, h4⟩
     ·exact .inr h
  ·exact .inr h
 ·rename_i ho; exact it_bin hT ho h
 ·rename_i ho; exact it_not ho h
 ·rename_i ho; exact it_conv hT ho h
 ·rename_i ho; exact it_extract ho h
 ·rename_i ho; exact it_load hT ho h
 ·rename_i ho; exact it_store hT ho h
 ·rename_i ho; exact it_alloc hT ho h
 ·rename_i ho; exact it_box hT ho h
 ·rename_i ho; exact it_fieldAddr hT ho h
 ·rename_i ho; exact it_field hT ho h
 ·rename_i ho; exact it_build hT ho h
 ·rename_i ho; exact it_slit hT ho h
 ·rename_i ho; exact it_idxA hT ho h
 ·rename_i ho; exact it_idx hT ho h
 ·rename_i ho; exact it_slice hT ho h
 ·rename_i ho; exact it_call hT ho h
 ·rename_i ho; exact it_func ho h
 ·exact .inr h
end
end Go.Proofs.YtblabcopgeobgaaGreatDoor

namespace Go.Proofs.YtblabcopgeobgaaGreatDoor
open Go.RowKit
section
variable {P : Program} {C : Cx} {T : Tab} {o : Oper} {tm : TM} {bx : BX} {tk : TK} {k : It → Prop} {dflt : Prop}
def OpOk (P : Program) (C : Cx) (o : Oper) (tm : TM) (bx : BX) (tk : TK) (K : KS) : Prop := ∃ S, AStepS P C o ⟨tm, bx, tk⟩ S ∧ ∀ σ', S σ' → K σ'.tm σ'.bx σ'.tk
theorem op_step {σ' : AS} {K : KS} (h : AStep P C o ⟨tm, bx, tk⟩ σ') (hK : K σ'.tm σ'.bx σ'.tk) : OpOk P C o tm bx tk K :=
 ⟨fun x => x = σ', fun a w hG K Q hK => h a w hG K Q fun a' w' h' => hK _ a' w' rfl h', fun x hx => by subst hx; exact hK⟩
theorem ap_ok (hT : TabOk P T) {K : KS} (h : apVC C T o tm bx tk K dflt) : OpOk P C o tm bx tk K ∨ dflt := by
 unfold apVC at h
 split at h
 ·rename_i s x st st' t ho hd
  split at h
  ·rename_i e z0 sz0 by0 hst
   split at h
   ·rename_i d z sz by' he
    cases hc : (Nat.blt t C.N && Nat.beq st st' && Nat.beq z.cells.toList.length sz && Nat.blt 0 sz && Nat.ble by' 1000) with
    | true =>
      rw [hc] at h
      simp only [cond_true] at h
      simp only [Bool.and_eq_true] at hc
      obtain ⟨⟨⟨⟨c1, c2⟩, c3⟩, c4⟩, c5⟩ := hc
      obtain rfl := Nat.eq_of_beq_eq_true c2
      have hz : z.cells.size = sz := Nat.eq_of_beq_eq_true c3
      split at h
      ·rename_i kk n sz' e' cs ux hs hx
       split at h
       ·rename_i n' sz'' e'' m ds hk hux
        cases hc2 : (Nat.beq sz' sz && Nat.beq sz'' sz && Nat.beq e' e && Nat.beq e'' e) with
        | true =>
          rw [hc2] at h
          simp only [cond_true] at h
          simp only [Bool.and_eq_true] at hc2
          obtain ⟨⟨⟨d1, d2⟩, d3⟩, d4⟩ := hc2
          obtain rfl := Nat.eq_of_beq_eq_true d1
          obtain rfl := Nat.eq_of_beq_eq_true d2
          obtain rfl := Nat.eq_of_beq_eq_true d3
          obtain rfl := Nat.eq_of_beq_eq_true d4
          obtain ⟨rfl, h63, _, _, rfl, rfl, h⟩ := h.h
          exact .inl (op_step (step_append ho hd (ltN c1) (evT_eq hs) hk (evT_eq hx) hux (hT.ty hst).u (hT.ty he) hz (ltN c4) h63 (leN c5)) (shBK_eq (shK_eq h)))
        | false => rw [hc2] at h; exact .inr h
       ·exact .inr h
      ·rename_i ux hs hx
       split at h
       ·rename_i m ds hux
        obtain ⟨κ, h⟩ := keyK_ok h
        cases hc2 : (clT κ tm && clB κ bx) with
        | true =>
          rw [hc2] at h
          obtain ⟨-, h63, _, _, rfl, rfl, h⟩ := h.h
          rw [Nat.zero_add] at h63 h
          exact .inl (op_step (step_append_nil ho hd (ltN c1) (evT_eq hs) hc2 (evT_eq hx) hux (hT.ty hst).u (hT.ty he) hz (ltN c4) h63 (leN c5)) h)
        | false => rw [hc2] at h; exact .inr h
       ·exact .inr h
      ·exact .inr h
    | false => rw [hc] at h; exact .inr h
   ·exact .inr h
  ·exact .inr h
 ·exact .inr h
theorem apIt_ok (hT : TabOk P T) {k : It → Prop} (h : apItVC C T o tm bx tk k dflt) : (∃ it, LA P C o it ⟨tm, bx, tk⟩ ∧ k it) ∨ dflt := by
 unfold apItVC at h
 split at h
 ·rename_i s x st st' t ho hd
  split at h
  ·rename_i e z0 sz0 by0 hst
   split at h
   ·rename_i d z sz by' he
    cases hc : (Nat.blt t C.N && Nat.beq st st' && Nat.beq z.cells.toList.length sz && Nat.blt 0 sz && Nat.ble by' 1000) with
    | true =>
      rw [hc] at h
      simp only [cond_true] at h
      simp only [Bool.and_eq_true] at hc
      obtain ⟨⟨⟨⟨c1, c2⟩, c3⟩, c4⟩, c5⟩ := hc
      obtain rfl := Nat.eq_of_beq_eq_true c2
      have hz : z.cells.size = sz := Nat.eq_of_beq_eq_true c3
      split at h
      ·rename_i kk n sz' e' cs ux hs hx
       split at h
       ·rename_i n' sz'' e'' m ds hk hux
        cases hc2 : (Nat.beq sz' sz && Nat.beq sz'' sz && Nat.beq e' e && Nat.beq e'' e) with
        | true =>
          rw [hc2] at h
          simp only [cond_true] at h
          simp only [Bool.and_eq_true] at hc2
          obtain ⟨⟨⟨d1, d2⟩, d3⟩, d4⟩ := hc2
          obtain rfl := Nat.eq_of_beq_eq_true d1
          obtain rfl := Nat.eq_of_beq_eq_true d2
          obtain rfl := Nat.eq_of_beq_eq_true d3
          obtain rfl := Nat.eq_of_beq_eq_true d4
          obtain ⟨rfl, h63, _, _, rfl, rfl, h⟩ := h.h
          exact .inl ⟨_, la_append ho hd (ltN c1) (evT_eq hs) hk (evT_eq hx) hux (hT.ty hst).u (hT.ty he) hz (ltN c4) h63 (leN c5), forceL_eq (forceL_eq h)⟩
        | false => rw [hc2] at h; exact .inr h
       ·exact .inr h
      ·rename_i ux hs hx
       split at h
       ·rename_i m ds hux
        obtain ⟨κ, h⟩ := keyK_ok h
        obtain ⟨-, h63, _, _, rfl, rfl, h⟩ := h.h
        rw [Nat.zero_add] at h63 h
        exact .inl ⟨_, la_append_nil ho hd (ltN c1) (evT_eq hs) (evT_eq hx) hux (hT.ty hst).u (hT.ty he) hz (ltN c4) h63 (leN c5), h⟩
       ·exact .inr h
      ·exact .inr h
    | false => rw [hc] at h; exact .inr h
   ·exact .inr h
  ·exact .inr h
 ·exact .inr h
theorem OpOk.ent {tm' : TM} {bx' : BX} {K : KS} (he : Ent ⟨tm, bx, tk⟩ ⟨tm', bx', tk⟩) (h : OpOk P C o tm' bx' tk K) : OpOk P C o tm bx tk K := by
 obtain ⟨S, h1, h2⟩ := h
 exact ⟨S, fun a w hG => h1 a w (he C a w hG), h2⟩
theorem fzL_ok : ∀ {l : List Operand} {tm : TM} {bx : BX} {K : TM → BX → Prop}, fzL l tm bx K → ∃ tm' bx', Ent ⟨tm, bx, tk⟩ ⟨tm', bx', tk⟩ ∧ K tm' bx'
 | [], tm, bx, K, h => ⟨tm, bx, fun _ _ _ h => h, h⟩
 | x :: r, tm, bx, K, h => by
   have h' : (match evT tm x with
    | some (.ptr k _) => (match lk k bx with
      | some cs => (match dataOf cs with
        | some ds => forceL ds (fun ds => frTK k ds tm (fun tm' => forceL (frB k ds bx) (fun bx' => fzL r tm' bx' K)))
        | none => False)
      | none => False)
    | _ => fzL r tm bx K) := h
   clear h
   split at h'
   ·rename_i k off hx
    split at h'
    ·rename_i cs hcs
     split at h'
     ·rename_i ds hds
      obtain ⟨tm', bx', e, hK⟩ := fzL_ok (forceL_eq (frTK_eq (forceL_eq h')))
      exact ⟨tm', bx', fun C a w hG => e C a w (ent_frz (σ := ⟨tm, bx, tk⟩) hcs hds C a w hG), hK⟩
     ·exact h'.elim
    ·exact h'.elim
   ·exact fzL_ok h'
theorem fzVC_ok {K : TM → BX → Prop} (h : fzVC T o tm bx K) : ∃ tm' bx', Ent ⟨tm, bx, tk⟩ ⟨tm', bx', tk⟩ ∧ K tm' bx' := by
 unfold fzVC at h
 split at h
 ·rename_i f fs captured ho
  cases hmu : memB f T.mu with
  | true => rw [hmu] at h; exact ⟨tm, bx, fun _ _ _ h => h, h⟩
  | false => rw [hmu] at h; exact fzL_ok h
 ·exact ⟨tm, bx, fun _ _ _ h => h, h⟩
theorem op1_ok (hT : TabOk P T) {K : KS} (h : itVC P C T o tm bx (fun it => bif clAll it.cr tm bx && exAll it.ex it tm bx then addK it tm bx tk K else False) (apVC C T o tm bx tk K (NStep P C o tm bx tk K))) : OpOk P C o tm bx tk K := by
 rcases itVC_ok (tk := tk) hT h with ⟨it, h1, h⟩ | h
 ·cases hc : (clAll it.cr tm bx && exAll it.ex it tm bx) with
  | true =>
    rw [hc] at h
    rw [Bool.and_eq_true] at hc
    exact op_step (h1 _ (fun _ _ => rfl) (exAll_ok hc.2) (clAll_ok hc.1)) (addK_eq h)
  | false => rw [hc] at h; exact h.elim
 ·rcases ap_ok hT h with h | h
  ·exact h
  ·exact h.h
theorem opVC_ok (hT : TabOk P T) {K : KS} (h : opVC P C T o tm bx tk K) : OpOk P C o tm bx tk K := by
 unfold opVC at h
 obtain ⟨tm', bx', he, h⟩ := fzVC_ok (tk := tk) h
 exact OpOk.ent he (op1_ok hT h)
theorem ops_ok (hT : TabOk P T) {ops : Array Oper} {Φ : Exit → AS → Prop} {K : KS} (hK : ∀ tm bx tk, K tm bx tk → Φ .normal ⟨tm, bx, tk⟩) : ∀ {l : List Oper} {tm : TM} {bx : BX} {tk : TK}, opsVC P C T ops.toList l tm bx tk K → AOps P C ops Φ l ⟨tm, bx, tk⟩
 | [], tm, bx, tk, h => aops_nil (hK _ _ _ h)
 | o :: r, tm, bx, tk, h => by
   have h' : gdVC ops.toList o tm (fun tm => opVC P C T o tm bx tk (fun tm bx tk => opsVC P C T ops.toList r tm bx tk K))
    (fun tm => match o.dst with
      | some s => bif Nat.blt s C.N then opsVC P C T ops.toList r ((s, .d (.v undef)) :: tm) bx tk K else False
      | none => opsVC P C T ops.toList r tm bx tk K) := h
   clear h
   unfold gdVC at h'
   have run : ∀ tm, opVC P C T o tm bx tk (fun tm bx tk => opsVC P C T ops.toList r tm bx tk K) → ∃ S, AStepS P C o ⟨tm, bx, tk⟩ S ∧ ∀ σ', S σ' → AOps P C ops Φ r σ' := fun tm h => by
    obtain ⟨S, h1, h2⟩ := opVC_ok hT h
    exact ⟨S, h1, fun σ' hs => ops_ok hT hK (h2 σ' hs)⟩
   split at h'
   ·rename_i hg
    obtain ⟨S, h1, h2⟩ := run tm h'
    exact aops_stepS hg h1 h2
   ·rename_i j b hg
    split at h'
    ·rename_i oj hj
     split at h'
     ·rename_i s hs
      split at h'
      ·rename_i c hc
       have hj' : ops[j]? = some oj := by rw [← Array.getElem?_toList]; exact hj
       cases hsN : Nat.blt s 1000000 with
       | false => rw [hsN] at h'; exact h'.elim
       | true =>
       rw [hsN] at h'
       simp only [cond_true] at h'
       have hs6 := ltN0 hsN
       have both : ∀ (c' : Bool), c = c' → (bif c' then (bif b then (fun tm => opVC P C T o tm bx tk (fun tm bx tk => opsVC P C T ops.toList r tm bx tk K)) else (fun tm => match o.dst with
        | some s => bif Nat.blt s C.N then opsVC P C T ops.toList r ((s, .d (.v undef)) :: tm) bx tk K else False
        | none => opsVC P C T ops.toList r tm bx tk K)) ((s, .d (.v (.bool true))) :: tm) else (bif b then (fun tm => match o.dst with
        | some s => bif Nat.blt s C.N then opsVC P C T ops.toList r ((s, .d (.v undef)) :: tm) bx tk K else False
        | none => opsVC P C T ops.toList r tm bx tk K) else (fun tm => opVC P C T o tm bx tk (fun tm bx tk => opsVC P C T ops.toList r tm bx tk K))) ((s, .d (.v (.bool false))) :: tm)) → AOps P C ops Φ (o :: r) ⟨tm, bx, tk⟩ := by
        intro c' hcc h
        refine aops_learn (t := s) (d := c') hc hcc ?_
        have hl : lk s (AS.put ⟨tm, bx, tk⟩ s (.d (.v (.bool c')))).tm = some (.d (.v (.bool c'))) := lk_same _ _ _
        have skip : ∀ b', c' = !b' → o.guard = some (j, b') → (match o.dst with
         | some q => bif Nat.blt q C.N then opsVC P C T ops.toList r ((q, .d (.v undef)) :: (s, .d (.v (.bool c'))) :: tm) bx tk K else False
         | none => opsVC P C T ops.toList r ((s, .d (.v (.bool c'))) :: tm) bx tk K) → AOps P C ops Φ (o :: r) (AS.put ⟨tm, bx, tk⟩ s (.d (.v (.bool c')))) := by
         intro b' hb' hg' h
         split at h
         ·rename_i q hq
          cases hbl : Nat.blt q C.N with
          | true => rw [hbl] at h; exact aops_skip hg' hj' hs hl hs6 hb' hq (ltN hbl) (ops_ok hT hK h)
          | false => rw [hbl] at h; exact h.elim
         ·rename_i hq
          exact aops_skip0 hg' hj' hs hl hs6 hb' hq (ops_ok hT hK h)
        cases c' with
        | true =>
          cases b with
          | true => obtain ⟨S, h1, h2⟩ := run _ h; exact aops_guardS hg hj' hs hl hs6 h1 h2
          | false => exact skip false rfl hg h
        | false =>
          cases b with
          | true => exact skip true rfl hg h
          | false => obtain ⟨S, h1, h2⟩ := run _ h; exact aops_guardS hg hj' hs hl hs6 h1 h2
       cases hcc : c with
       | true => exact both true hcc (h'.t hcc)
       | false => exact both false hcc (h'.f hcc)
      ·rename_i x hx
       have hj' : ops[j]? = some oj := by rw [← Array.getElem?_toList]; exact hj
       cases hsN : Nat.blt s 1000000 with
       | false => rw [hsN] at h'; exact h'.elim
       | true =>
         rw [hsN] at h'
         simp only [cond_true] at h'
         split at h'
         ·rename_i q hq
          cases hbl : Nat.blt q C.N with
          | true => rw [hbl] at h'; exact aops_skipU (σ := ⟨tm, bx, tk⟩) hg hj' hs hx (ltN0 hsN) hq (ltN hbl) (ops_ok hT hK h')
          | false => rw [hbl] at h'; exact h'.elim
         ·rename_i hq
          exact aops_skipU0 (σ := ⟨tm, bx, tk⟩) hg hj' hs hx (ltN0 hsN) hq (ops_ok hT hK h')
      ·exact h'.elim
     ·exact h'.elim
    ·exact h'.elim
def DrR (P : Program) (C : Cx) (ops : Array Oper) (l : List Oper) (σ : AS) (K : List It → KS) (KL : List It → Oper → KS) : Prop :=
 (∃ its, Scr P C ops l its σ ∧ K its (σ.addAll its).tm (σ.addAll its).bx (σ.addAll its).tk) ∨ ∃ l' o1 its, l = l' ++ [o1] ∧ Scr P C ops l' its σ ∧ KL its o1 (σ.addAll its).tm (σ.addAll its).bx (σ.addAll its).tk
theorem DrR.cons {ops : Array Oper} {r : List Oper} {σ : AS} {it : It} {K : List It → KS} {KL : List It → Oper → KS} (h : LStep P C ops o it σ) (k : DrR P C ops r (σ.add it) (fun its => K (it :: its)) (fun its => KL (it :: its))) : DrR P C ops (o :: r) σ K KL := by
 rcases k with ⟨its, h1, h2⟩ | ⟨l', o1, its, rfl, h1, h2⟩
 ·exact .inl ⟨it :: its, .cons h h1, h2⟩
 ·exact .inr ⟨o :: l', o1, it :: its, rfl, .cons h h1, h2⟩
theorem dr_ok (hT : TabOk P T) {ops : Array Oper} : ∀ {l : List Oper} {tm : TM} {bx : BX} {tk : TK} {K : List It → KS} {KL : List It → Oper → KS}, drVC P C T ops.toList l tm bx tk K KL → DrR P C ops l ⟨tm, bx, tk⟩ K KL
 | [], tm, bx, tk, K, KL, h => .inl ⟨[], .nil, h⟩
 | o :: r, tm, bx, tk, K, KL, h => by
   obtain ⟨run, hrun⟩ : ∃ p, p = itVC P C T o tm bx (fun it => addK it tm bx tk (fun tm bx tk => drVC P C T ops.toList r tm bx tk (fun its => K (it :: its)) (fun its => KL (it :: its)))) (match r with
    | [] => KL [] o tm bx tk
    | _ :: _ => apItVC C T o tm bx tk (fun it => addK it tm bx tk (fun tm bx tk => drVC P C T ops.toList r tm bx tk (fun its => K (it :: its)) (fun its => KL (it :: its)))) (NLa P C o tm bx tk (fun it => addK it tm bx tk (fun tm bx tk => drVC P C T ops.toList r tm bx tk (fun its => K (it :: its)) (fun its => KL (it :: its)))))) := ⟨_, rfl⟩
   obtain ⟨skip, hskip⟩ : ∃ p, p = (match o.dst with
    | some s => bif Nat.blt s C.N then drVC P C T ops.toList r ((s, .d (.v undef)) :: tm) bx tk (fun its => K (⟨[], some (s, .d (.v undef)), none, none, [], [], [], []⟩ :: its)) (fun its => KL (⟨[], some (s, .d (.v undef)), none, none, [], [], [], []⟩ :: its)) else False
    | none => drVC P C T ops.toList r tm bx tk (fun its => K (⟨[], none, none, none, [], [], [], []⟩ :: its)) (fun its => KL (⟨[], none, none, none, [], [], [], []⟩ :: its))) := ⟨_, rfl⟩
   have h' : (match o.guard with
    | none => run
    | some (j, b) => (match ops.toList[j]? with
      | some oj => (match oj.dst with
        | some s => (match lk s tm with
          | some (.d (.v (.bool c))) => bif Nat.blt s 1000000 then NBr c (bif b then run else skip) (bif b then skip else run) else False
          | some (.d (.v (.tuple _))) => bif Nat.blt s 1000000 then skip else False
          | _ => False)
        | none => False)
      | none => False)) := by rw [hrun, hskip]; exact h
   clear h
   have hr : run → (∃ it, LA P C o it ⟨tm, bx, tk⟩ ∧ DrR P C ops r (AS.add ⟨tm, bx, tk⟩ it) (fun its => K (it :: its)) (fun its => KL (it :: its))) ∨ (r = [] ∧ KL [] o tm bx tk) := fun h => by
    rw [hrun] at h
    rcases itVC_ok (tk := tk) hT h with ⟨it, h1, h⟩ | h
    ·exact .inl ⟨it, h1, dr_ok hT (addK_eq h)⟩
    ·split at h
     ·exact .inr ⟨rfl, h⟩
     ·rcases apIt_ok hT h with ⟨it, h1, h⟩ | h
      ·exact .inl ⟨it, h1, dr_ok hT (addK_eq h)⟩
      ·obtain ⟨it, h1, h⟩ := h.h
       exact .inl ⟨it, h1, dr_ok hT (addK_eq h)⟩
   have fin : r = [] ∧ KL [] o tm bx tk → DrR P C ops (o :: r) ⟨tm, bx, tk⟩ K KL := fun ⟨e, h⟩ => by
    subst e
    exact .inr ⟨[], o, [], rfl, .nil, h⟩
   split at h'
   ·rename_i hg
    rcases hr h' with ⟨it, h1, h2⟩ | h2
    ·exact .cons (loc_plain hg h1) h2
    ·exact fin h2
   ·rename_i j b hg
    split at h'
    ·rename_i oj hj
     split at h'
     ·rename_i s hs
      split at h'
      ·rename_i c hc
       have hj' : ops[j]? = some oj := by rw [← Array.getElem?_toList]; exact hj
       cases hsN : Nat.blt s 1000000 with
       | false => rw [hsN] at h'; exact h'.elim
       | true =>
       rw [hsN] at h'
       simp only [cond_true] at h'
       have hs6 := ltN0 hsN
       have hrn : c = b → run → DrR P C ops (o :: r) ⟨tm, bx, tk⟩ K KL := fun e h => by
        rcases hr h with ⟨it, h1, h2⟩ | h2
        ·exact .cons (loc_guardE hg hj' hs hc hs6 e h1) h2
        ·exact fin h2
       have hsk : c = !b → skip → DrR P C ops (o :: r) ⟨tm, bx, tk⟩ K KL := fun e h => by
        rw [hskip] at h
        split at h
        ·rename_i q hq
         cases hbl : Nat.blt q C.N with
         | true =>
           rw [hbl] at h
           exact .cons (loc_skip hg hj' hs hc hs6 e hq (ltN hbl)) (dr_ok hT h)
         | false => rw [hbl] at h; exact h.elim
        ·rename_i hq
         exact .cons (loc_skip0 hg hj' hs hc hs6 e hq) (dr_ok hT h)
       cases hcc : c with
       | true =>
         have h := h'.t hcc
         cases b with
         | true => exact hrn hcc h
         | false => exact hsk hcc h
       | false =>
         have h := h'.f hcc
         cases b with
         | true => exact hsk hcc h
         | false => exact hrn hcc h
      ·rename_i x hx
       have hj' : ops[j]? = some oj := by rw [← Array.getElem?_toList]; exact hj
       cases hsN : Nat.blt s 1000000 with
       | false => rw [hsN] at h'; exact h'.elim
       | true =>
         rw [hsN] at h'
         simp only [cond_true] at h'
         rw [hskip] at h'
         split at h'
         ·rename_i q hq
          cases hbl : Nat.blt q C.N with
          | true =>
            rw [hbl] at h'
            exact .cons (loc_skipU hg hj' hs hx (ltN0 hsN) hq (ltN hbl)) (dr_ok hT h')
          | false => rw [hbl] at h'; exact h'.elim
         ·rename_i hq
          exact .cons (loc_skipU0 hg hj' hs hx (ltN0 hsN) hq) (dr_ok hT h')
      ·exact h'.elim
     ·exact h'.elim
    ·exact h'.elim
theorem evT_tmp {t : Nat} {u : AV} (h : evT tm (.tmp t) = some u) : Nat.blt t 1000000 = true ∧ lk t tm = some u := by
 have h' : (bif Nat.blt t 1000000 then lk t tm else none) = some u := h
 cases hb : Nat.blt t 1000000 with
 | true => rw [hb] at h'; exact ⟨rfl, h'⟩
 | false => rw [hb] at h'; cases h'
theorem cond_ok {c : Operand} {x y : Code} {Φ : Exit → AS → Prop} {a b : TM → Prop} (ha : ∀ tm, a tm → ACode P C x Φ ⟨tm, bx, tk⟩) (hb : ∀ tm, b tm → ACode P C y Φ ⟨tm, bx, tk⟩) (h : condVC tm c a b) : ACode P C (.cond c x y) Φ ⟨tm, bx, tk⟩ := by
 unfold condVC at h
 split at h
 ·rename_i t
  split at h
  ·rename_i v hv
   have hl := (evT_tmp hv).2
   refine acode_cond (c := .tmp t) (evT_eq hv) (fun e => ?_) (fun e => ?_)
   ·exact acode_learn (t := t) (d := true) hl e (ha _ (h.t e))
   ·exact acode_learn (t := t) (d := false) hl e (hb _ (h.f e))
  ·exact h.elim
 ·exact acode_cond (c := .const (.bool _)) rfl (fun e => ha _ (h.t e)) (fun e => hb _ (h.f e))
 ·exact h.elim
theorem Ent.refl (σ : AS) : Ent σ σ := fun _ _ _ h => h
theorem acode_loopE {Φ : Exit → AS → Prop} {σ : AS} {c : Code} (I : Nat → AS → Prop) (n : Nat) (h0 : ∃ σ', Ent σ σ' ∧ I n σ') (round : ∀ n σ, I n σ → ACode P C c (nx (fun σ' => ∃ m, m < n ∧ ∃ σ'', Ent σ' σ'' ∧ I m σ'') Φ) σ) : ACode P C (.loop c) Φ σ := by
 obtain ⟨σ', hw, hI⟩ := h0
 have h := acode_loop (fun m σ => ∃ σ'', Ent σ σ'' ∧ I m σ'') n ⟨σ', Ent.refl _, hI⟩ fun n σ hI => by
  obtain ⟨σ2, hw2, hI2⟩ := hI
  exact fun a w hG => round n σ2 hI2 a w (hw2 C a w hG)
 exact fun a w hG => h a w (hw C a w hG)
theorem code_ok (hT : TabOk P T) (hm : P.follows .mixedOrders = true) (c : Code) : ∀ (kn : KS) (ke : Nat → KS) (kr : KS) (tm : TM) (bx : BX) (tk : TK), codeVC P C T c kn ke kr tm bx tk → ACode P C c (toΦ kn ke kr) ⟨tm, bx, tk⟩ := by
 induction c with
 | skip => intro kn ke kr tm bx tk h; exact acode_skip h
 | region id ops draw =>
   intro kn ke kr tm bx tk h
   cases draw with
   | true =>
     rcases dr_ok (ops := ops) (K := fun its tm' bx' tk' => NFact (aheadB ops = true ∧ drawOk ops.toList its ⟨tm, bx, tk⟩ = true) (kn tm' bx' tk')) (KL := fun its o tm' bx' tk' => NFact (aheadB ops = true ∧ drawOkL ops.toList.dropLast o its ⟨tm, bx, tk⟩ = true) (opsVC P C T ops.toList [o] tm' bx' tk' kn)) hT h with ⟨its, h1, h2⟩ | ⟨l', o1, its, hl, h1, h2⟩
     ·exact acode_draw (l := ops.toList) hm h2.h.1 h1 h2.h.2 h2.k
     ·have hd : ops.toList.dropLast = l' := by rw [hl]; simp
      obtain ⟨⟨k1, k2⟩, k3⟩ := h2
      rw [hd] at k2
      have he : ops = (l' ++ [o1]).toArray := by rw [← hl]
      subst he
      exact acode_drawL hm k1 h1 k2 (ops_ok (Φ := toΦ kn ke kr) (K := kn) hT (fun _ _ _ h => h) k3)
   | false => exact acode_region (l := ops.toList) (ops_ok (ops := ops) (Φ := toΦ kn ke kr) (K := kn) hT (fun _ _ _ h => h) h)
 | seq x y ihx ihy =>
   intro kn ke kr tm bx tk h
   refine acode_seq (acode_mono (ihx _ _ _ _ _ _ h) fun e σ he => ?_)
   cases e with
   | normal => exact ihy _ _ _ _ _ _ he
   | exit id => exact he
   | ret => exact he
   | goto l => exact he.elim
   | panic c => exact he.elim
   | _ => first | exact he.elim | exact he
 | cond c x y ihx ihy =>
   intro kn ke kr tm bx tk h
   exact cond_ok (fun tm h => ihx _ _ _ _ _ _ h) (fun tm h => ihy _ _ _ _ _ _ h) h
 | block id c ih =>
   intro kn ke kr tm bx tk h
   refine acode_block (acode_mono (ih _ _ _ _ _ _ h) fun e σ he => ?_)
   cases e with
   | normal => exact he
   | exit id' =>
     simp only [inB]
     have he' : (bif Nat.beq id' id then kn else ke id') σ.tm σ.bx σ.tk := he
     cases hb : Nat.beq id' id with
     | true => rw [hb] at he'; exact he'
     | false => rw [hb] at he'; exact he'
   | ret => exact he
   | goto l => exact he.elim
   | panic c => exact he.elim
   | _ => first | exact he.elim | exact he
 | loop c ih =>
   intro kn ke kr tm bx tk h
   obtain ⟨α, inv, ms, st, W, a0, hW, h0, w0, hr⟩ := NLoop.h h
   refine acode_loopE (fun m σ => ∃ a, inv a ∧ m = ms a ∧ σ = st a) (ms a0) ⟨_, w0, a0, h0, rfl, rfl⟩ ?_
   rintro m _ ⟨a, ha, rfl, rfl⟩
   refine acode_mono (ih _ _ _ _ _ _ (hr a ha)) fun e σ he => ?_
   cases e with
   | normal => obtain ⟨a', h1, h2, h3⟩ := he; exact ⟨_, h2, _, hW _ _ h3, a', h1, rfl, rfl⟩
   | exit id => exact he
   | ret => exact he
   | goto l => exact he.elim
   | panic c => exact he.elim
   | _ => first | exact he.elim | exact he
 | rangeFunc f ps a b _ _ => intro kn ke kr tm bx tk h; exact NCode.h h
 | exit id => intro kn ke kr tm bx tk h; exact acode_exit h
 | scope c ih =>
   intro kn ke kr tm bx tk h
   refine acode_scope (acode_mono (ih _ _ _ _ _ _ h) fun e σ he => ?_)
   cases e with
   | normal => exact he
   | exit id => exact he
   | ret => exact he
   | goto l => exact he.elim
   | panic c => exact he.elim
   | _ => first | exact he.elim | exact he
 | label l => intro kn ke kr tm bx tk h; exact acode_label h
 | goto l => intro kn ke kr tm bx tk h; exact False.elim h
 | ret => intro kn ke kr tm bx tk h; exact acode_ret h
 | refuse w => intro kn ke kr tm bx tk h; exact False.elim h
theorem res_ok (hT : TabOk P T) : ∀ {rs : List ResultVar} {K : List AV → Prop}, resW T tm bx rs K → ∃ us, ResAVs P ⟨tm, bx, tk⟩ rs us ∧ K us
 | [], K, h => ⟨[], trivial, h⟩
 | .tmp t :: r, K, h => by
   have h' : (match evT tm (.tmp t) with
    | some u => resW T tm bx r (fun us => K (u :: us))
    | none => False) := h
   split at h'
   ·rename_i u hu
    obtain ⟨us, h1, h2⟩ := res_ok hT h'
    exact ⟨u :: us, ⟨evT_tmp hu, h1⟩, h2⟩
   ·exact h'.elim
 | .cell p ty :: r, K, h => by
   have h' : (match evT tm (.tmp p), lk ty T.ty with
    | some (.ptr b off), some (d, _, sz, _) => (match lk b bx with
      | some cs => bif aggD d then forceL ((cs.drop off).take sz) (fun us' => bif Nat.beq us'.length sz then resW T tm bx r (fun us => K (.agg us' :: us)) else False) else (match cs[off]? with
        | some u => resW T tm bx r (fun us => K (u :: us))
        | none => False)
      | none => False)
    | _, _ => False) := h
   clear h
   split at h'
   ·rename_i b off d z sz by' hp0 hty
    obtain ⟨hbt, hp⟩ := evT_tmp hp0
    split at h'
    ·rename_i cs hcs
     cases hD : aggD d with
     | true =>
       rw [hD] at h'
       have h' := forceL_eq h'
       cases hl : Nat.beq ((cs.drop off).take sz).length sz with
       | true =>
         rw [hl] at h'
         obtain ⟨us, h1, h2⟩ := res_ok hT h'
         exact ⟨.agg ((cs.drop off).take sz) :: us, ⟨res_cellN (σ := ⟨tm, bx, tk⟩) hbt hp hcs (hT.ty hty) hD rfl (Nat.eq_of_beq_eq_true hl), h1⟩, h2⟩
       | false => rw [hl] at h'; exact h'.elim
     | false =>
       rw [hD] at h'
       simp only [cond_false] at h'
       split at h'
       ·rename_i u hu
        obtain ⟨us, h1, h2⟩ := res_ok hT h'
        exact ⟨u :: us, ⟨res_cell (σ := ⟨tm, bx, tk⟩) hbt hp hcs (hT.ty hty) hD hu, h1⟩, h2⟩
       ·exact h'.elim
    ·exact h'.elim
   ·exact h'.elim
theorem end_ok (hT : TabOk P T) {fn : Func} {Φ : AV → Prop} (h : endK T fn.results Φ tm bx tk) : Ends P fn Φ ⟨tm, bx, tk⟩ := by
 obtain ⟨us, h1, h2⟩ := res_ok (tk := tk) hT h
 refine ⟨us, h1, ?_⟩
 unfold endW at h2
 unfold single
 split at h2
 ·exact h2.h
 ·rename_i hne
  split
  ·exact absurd rfl (hne _)
  ·exact h2.h
theorem acalls_vc {f : FuncId} {fn : Func} {c : Code} {args : List AV} {Φ : AV → Prop} (N : Nat) (rs : Array ResultVar) (hT : TabOk P T) (hm : P.follows .mixedOrders = true) (hf : P.funcs[f]? = some fn) (hN : fn.ntmps = N) (hn0 : (fn.name == "runtime.NumGoroutine") = false) (hb : fn.body = some c) (hr : fn.results = rs) (hn : Nat.ble rs.size 4 = true) (hA : (Nat.ble args.length N && Nat.ble N 1000000) = true)
 (h : ∀ W fp0 z0, codeVC P ⟨W, fp0, N, fun _ => none, z0⟩ T c (endK T rs Φ) (fun _ _ _ _ => False) (endK T rs Φ) (initTm 0 args) [] []) : ACalls P f args Φ := by
 subst hN hr
 simp only [Bool.and_eq_true] at hA
 refine acalls_of hf (enters hf hn0 hb) hb (leN hn) (leN hA.1) (leN hA.2) fun W fp0 z0 => acode_mono (code_ok hT hm c _ _ _ _ _ _ (h W fp0 z0)) fun e σ he => ?_
 cases e with
 | normal => exact end_ok hT he
 | exit id => exact False.elim he
 | ret => exact end_ok hT he
 | goto l => exact he.elim
 | panic c => exact he.elim
 | _ => first | exact he.elim | exact he
noncomputable def backK (tm : TM) (K : TM → Prop) : Prop :=
 @List.rec (Nat × AV) (fun _ => (TM → Prop) → Prop) (fun K => K []) (fun p _ ih K => match p with
  | (t, u) => bif Nat.ble 1000000 t then ih (fun r => K ((t - 1000000, u) :: r)) else ih K) tm K
theorem backK_eq : ∀ {tm : TM} {K : TM → Prop}, backK tm K → K (backT tm)
 | [], _, h => h
 | (t, u) :: r, K, h => by
   have h' : (bif Nat.ble 1000000 t then backK r (fun r => K ((t - 1000000, u) :: r)) else backK r K) := h
   unfold backT backM
   cases hb : Nat.ble 1000000 t with
   | true => rw [hb] at h'; exact backK_eq h'
   | false => rw [hb] at h'; exact backK_eq h'
noncomputable def retK (d : Option Nat) (u : AV) (tm : TM) (K : TM → Prop) : Prop :=
 match d with
 | some t => backK tm (fun r => K ((t, u) :: r))
 | none => backK tm K
noncomputable def endIK (T : Tab) (rs : Array ResultVar) (d : Option Nat) (K : KS) : KS := fun tm bx tk => resW T tm bx rs.toList (fun us => retK d (single us) tm (fun tm => K tm bx tk))
def dstOk (d : Option Nat) (N : Nat) : Bool := match d with
 | some t => Nat.blt t N
 | none => true
theorem endIK_ok (hT : TabOk P T) {rs : Array ResultVar} {d : Option Nat} {K : KS} (h : endIK T rs d K tm bx tk) : ∃ us, ResAVs P ⟨tm, bx, tk⟩ rs.toList us ∧ K ((AS.mk tm bx tk).ret d (single us)).tm ((AS.mk tm bx tk).ret d (single us)).bx ((AS.mk tm bx tk).ret d (single us)).tk := by
 obtain ⟨us, h1, h2⟩ := res_ok (tk := tk) hT h
 refine ⟨us, h1, ?_⟩
 unfold retK at h2
 unfold AS.ret
 cases d with
 | none => exact backK_eq h2
 | some t => exact backK_eq h2
theorem inl_code (hT : TabOk P T) (hm : P.follows .mixedOrders = true) {fn : Func} {c : Code} {us : List AV} {d : Option Nat} {K : KS} (off : Nat) {W : World} {fp0 z0 : Nat → Nat → Prop} {N : Nat} {rs : Array ResultVar} (hr : fn.results = rs) (hN : fn.ntmps = N)
 (h : ∀ gh, forceL (inT us tm) (fun tm => codeVC P ⟨W, fp0, N, gh, z0⟩ ⟨T.ty, T.fd, T.st, T.mu, off⟩ c (endIK T rs d K) (fun _ _ _ _ => False) (endIK T rs d K) tm bx tk)) :
 ∀ gh, ACode P ⟨W, fp0, fn.ntmps, gh, z0⟩ c (endI P fn.results.toList d (fun σ' => K σ'.tm σ'.bx σ'.tk)) ⟨inT us tm, bx, tk⟩ := by
 subst hr hN
 intro gh
 have hg := forceL_eq (K := fun tm => codeVC P ⟨W, fp0, fn.ntmps, gh, z0⟩ ⟨T.ty, T.fd, T.st, T.mu, off⟩ c (endIK T fn.results d K) (fun _ _ _ _ => False) (endIK T fn.results d K) tm bx tk) (h gh)
 refine acode_mono (code_ok (T := ⟨T.ty, T.fd, T.st, T.mu, off⟩) ⟨hT.ty, hT.fd, hT.st⟩ hm c _ _ _ _ _ _ hg) fun e σ he => ?_
 cases e with
 | normal => exact endIK_ok hT he
 | exit id => exact False.elim he
 | ret => exact endIK_ok hT he
 | goto l => exact he.elim
 | panic c => exact he.elim
 | _ => first | exact he.elim | exact he
theorem NStep.inl {f : FuncId} {fn : Func} {c : Code} {args : Array Operand} {ats : Array TypeId} {us : List AV} {K : KS} (off N : Nat) (rs : Array ResultVar) (hT : TabOk P T) (hm : P.follows .mixedOrders = true) (ho : o.op = .call { callee := .value (.func f), args := args, argTypes := ats }) (hd : dstOk o.dst C.N = true)
 (hu : evL ⟨tm, bx, tk⟩ args.toList = some us) (hf : P.funcs[f]? = some fn) (hN : fn.ntmps = N) (hn0 : (fn.name == "runtime.NumGoroutine") = false) (hb : fn.body = some c) (hr : fn.results = rs) (hn : Nat.ble rs.size 4 = true) (hA : (Nat.ble us.length N && Nat.ble N 1000000) = true)
 (h : ∀ gh, forceL (inT us tm) (fun tm => codeVC P ⟨C.W, C.fp0, N, gh, C.z0⟩ ⟨T.ty, T.fd, T.st, T.mu, off⟩ c (endIK T rs o.dst K) (fun _ _ _ _ => False) (endIK T rs o.dst K) tm bx tk)) : NStep P C o tm bx tk K := by
 simp only [Bool.and_eq_true] at hA
 refine ⟨_, step_inl ho (fun t ht => by unfold dstOk at hd; rw [ht] at hd; exact ltN hd) hu (enters hf hn0 hb) hf hb (by rw [hr]; exact leN hn) (by rw [hN]; exact leN hA.1) (by rw [hN]; exact leN hA.2) (inl_code hT hm off hr hN h), fun σ' h => h⟩
end
end Go.Proofs.YtblabcopgeobgaaGreatDoor

namespace Go.Proofs.YtblabcopgeobgaaGreatDoor
open Go.RowKit
abbrev iv (n : Int) : AV := .d (.v (.int .i64 n))
abbrev bv (b : Bool) : AV := .d (.v (.bool b))
abbrev cv (b : Nat) : AV := .d (.v (.int .u8 b))
theorem NBr.yes {A B : Prop} (h : A) : NBr true A B := ⟨fun _ => h, fun e => (by cases e)⟩
theorem NBr.no {A B : Prop} (h : B) : NBr false A B := ⟨fun e => (by cases e), fun _ => h⟩
theorem NBr.dec {p : Prop} {i : Decidable p} {A B : Prop} (a : @decide p i = true → p → A) (b : @decide p i = false → ¬ p → B) : NBr (@decide p i) A B := ⟨fun h => a h (of_decide_eq_true h), fun h => b h (of_decide_eq_false h)⟩
theorem NBr.beq {x y : Int} {A B : Prop} (a : (x == y) = true → x = y → A) (b : (x == y) = false → ¬ x = y → B) : NBr (x == y) A B := ⟨fun h => a h (eq_of_beq h), fun h => b h (by rw [beq_eq_false_iff_ne] at h; exact h)⟩
theorem NBr.bne {x y : Int} {A B : Prop} (a : (x != y) = true → ¬ x = y → A) (b : (x != y) = false → x = y → B) : NBr (x != y) A B := ⟨fun h => a h (by rw [bne_iff_ne] at h; exact h), fun h => b h (by rw [bne_eq_false_iff_eq] at h; exact h)⟩
theorem NBr.pos {b : Bool} {A B : Prop} (e : b = true) (h : A) : NBr b A B := ⟨fun _ => h, fun e' => (by rw [e] at e'; cases e')⟩
theorem NBr.neg {b : Bool} {A B : Prop} (e : b = false) (h : B) : NBr b A B := ⟨fun e' => (by rw [e] at e'; cases e'), fun _ => h⟩
theorem NInt.as {e : Int} {A : Int → Prop} (e' : Int) (h : e = e') (k : A e') : NInt e A := ⟨fun z hz => (by subst hz; subst h; exact k)⟩
theorem NInt.i64 {m : Int} {A : Int → Prop} (k : A m) (h : -9223372036854775808 ≤ m ∧ m ≤ 9223372036854775807 := by (repeat' apply And.intro) <;> first | omega | rfl | (simp only [List.length_cons, List.length_nil, List.length_append, List.length_take, List.length_drop] at *; omega)) : NInt (IntKind.i64.wrap m) A := .as m (IntWalk.i64_in m h) k
theorem NInt.i32 {m : Int} {A : Int → Prop} (k : A m) (h : -2147483648 ≤ m ∧ m ≤ 2147483647 := by (repeat' apply And.intro) <;> first | omega | rfl | (simp only [List.length_cons, List.length_nil, List.length_append, List.length_take, List.length_drop] at *; omega)) : NInt (IntKind.i32.wrap m) A := .as m (IntWalk.i32_in m h) k
theorem NInt.u8 {m : Int} {A : Int → Prop} (k : A m) (h : 0 ≤ m ∧ m ≤ 255 := by (repeat' apply And.intro) <;> first | omega | rfl | (simp only [List.length_cons, List.length_nil, List.length_append, List.length_take, List.length_drop] at *; omega)) : NInt (IntKind.u8.wrap m) A := .as m (IntWalk.u8_in m h) k
theorem NInt.u16 {m : Int} {A : Int → Prop} (k : A m) (h : 0 ≤ m ∧ m ≤ 65535 := by (repeat' apply And.intro) <;> first | omega | rfl | (simp only [List.length_cons, List.length_nil, List.length_append, List.length_take, List.length_drop] at *; omega)) : NInt (IntKind.u16.wrap m) A := .as m (IntWalk.u16_in m h) k
theorem NInt.u32 {m : Int} {A : Int → Prop} (k : A m) (h : 0 ≤ m ∧ m ≤ 4294967295 := by (repeat' apply And.intro) <;> first | omega | rfl | (simp only [List.length_cons, List.length_nil, List.length_append, List.length_take, List.length_drop] at *; omega)) : NInt (IntKind.u32.wrap m) A := .as m (IntWalk.u32_in m h) k
theorem NInt.u64 {m : Int} {A : Int → Prop} (k : A m) (h : 0 ≤ m ∧ m ≤ 18446744073709551615 := by (repeat' apply And.intro) <;> first | omega | rfl | (simp only [List.length_cons, List.length_nil, List.length_append, List.length_take, List.length_drop] at *; omega)) : NInt (IntKind.u64.wrap m) A := .as m (IntWalk.u64_in m h) k
theorem NInt.quo {k : IntKind} {m d : Nat} {A : Int → Prop} (kk : A ((m / d : Nat) : Int)) (h : k.wrap ((m / d : Nat) : Int) = ((m / d : Nat) : Int) := by first | exact IntWalk.u64_in _ (by omega) | exact IntWalk.i64_in _ (by omega) | exact IntWalk.u32_in _ (by omega) | exact IntWalk.u8_in _ (by omega)) : NInt (k.wrap ((m : Int).tdiv (d : Int))) A :=
 .as _ (by rw [Int.tdiv_eq_ediv_of_nonneg (by omega), ← Int.natCast_ediv]; exact h) kk
theorem NInt.rem {m d : Nat} {A : Int → Prop} (kk : A ((m % d : Nat) : Int)) : NInt ((m : Int).tmod (d : Int)) A := .as _ (by rw [Int.tmod_eq_emod_of_nonneg (by omega)]; rfl) kk
theorem NInt.quoL {k : IntKind} {m d : Nat} {A : Int → Prop} (kk : A ((m / (@OfNat.ofNat Nat d (instOfNatNat d)) : Nat) : Int)) (h : k.wrap ((m / (@OfNat.ofNat Nat d (instOfNatNat d)) : Nat) : Int) = ((m / (@OfNat.ofNat Nat d (instOfNatNat d)) : Nat) : Int) := by first | exact IntWalk.u64_in _ (by omega) | exact IntWalk.i64_in _ (by omega) | exact IntWalk.u32_in _ (by omega) | exact IntWalk.u8_in _ (by omega)) : NInt (k.wrap ((m : Int).tdiv (@OfNat.ofNat Int d _))) A := .quo (d := d) kk h
theorem NInt.remL {m d : Nat} {A : Int → Prop} (kk : A ((m % (@OfNat.ofNat Nat d (instOfNatNat d)) : Nat) : Int)) : NInt ((m : Int).tmod (@OfNat.ofNat Int d _)) A := .rem (d := d) kk
theorem NInt.shr {m e : Nat} {A : Int → Prop} (kk : A ((m / 2 ^ e : Nat) : Int)) : NInt ((m : Int).fdiv (2 ^ e)) A := .as _ (by
 rw [Int.fdiv_eq_ediv_of_nonneg _ (by exact_mod_cast Nat.zero_le (2 ^ e))]
 rw [Int.natCast_ediv, Int.natCast_pow]; rfl) kk
theorem NInt.octZ {z : Int} {A : Int → Prop} (m : Nat) (k : A ((UInt8.ofNat m).toNat : Int)) (hz : z = (m : Int) := by omega) : NInt (IntKind.u8.wrap z) A := .as _ (by rw [hz, u8_wrap m]) k
theorem NInt.oct {m : Nat} {A : Int → Prop} (k : A ((UInt8.ofNat m).toNat : Int)) : NInt (IntKind.u8.wrap (m : Int)) A := .as _ (u8_wrap m) k
theorem NFact.go {F A : Prop} (h : F) (k : A) : NFact F A := ⟨h, k⟩
theorem drop_one {α : Type} {l : List α} {i : Nat} {b : α} (h : l[i]? = some b) : (l.drop i).take 1 = [b] := by
 obtain ⟨h1, h2⟩ := List.getElem?_eq_some_iff.1 h
 rw [List.drop_eq_getElem_cons h1, h2]; rfl
theorem NIdx.bytes {l : List UInt8} {j : Int} {A : List D → Prop} {i : Nat} {b : UInt8} (hb : l[i]? = some b) (k : A [.v (.int .u8 b.toNat)]) (hj : j = (i : Int) := by first | rfl | omega | (simp only [List.length_cons, List.length_append] at *; omega)) : NIdx (bytesL l) l.length 1 j A := by
 refine ⟨i, _, hj, (List.getElem?_eq_some_iff.1 hb).1, ?_, k⟩
 rw [Nat.mul_one]
 exact drop_one (by rw [bytesL_get, hb]; rfl)
theorem NIdx.any {l : List UInt8} {j : Int} {A : List D → Prop} (k : ∀ b : UInt8, l[j.toNat]? = some b → A [.v (.int .u8 b.toNat)]) (h : 0 ≤ j ∧ j < l.length := by first | omega | (simp only [List.length_cons] at *; omega)) : NIdx (bytesL l) l.length 1 j A := by
 have hlt : j.toNat < l.length := by omega
 exact NIdx.bytes (List.getElem?_eq_getElem hlt) (k _ (List.getElem?_eq_getElem hlt)) (by omega)
theorem NIdx.tab {α : Type} {f : α → List D} {l : List α} {sz : Nat} {j : Int} {A : List D → Prop} {i : Nat} {b : α} (hf : ∀ x, (f x).length = sz) (hb : l[i]? = some b) (k : A (f b)) (hj : j = (i : Int) := by first | rfl | omega | (simp only [List.length_cons, List.length_append] at *; omega)) : NIdx (l.flatMap f) l.length sz j A :=
 ⟨i, _, hj, (List.getElem?_eq_some_iff.1 hb).1, flat_at hf hb, k⟩
theorem NIdx.at {cs : List D} {n sz : Nat} {j : Int} {A : List D → Prop} (i : Nat) (k : A ((cs.drop (i * sz)).take sz)) (hj : j = (i : Int) := by first | rfl | omega | (simp only [List.length_cons, List.length_append] at *; omega)) (hi : i < n := by first | decide | omega) : NIdx cs n sz j A := ⟨i, _, hj, hi, rfl, k⟩
theorem NIdxS.at {l : List UInt8} {j : Int} {A : UInt8 → Prop} {i : Nat} {b : UInt8} (hb : l[i]? = some b) (k : A b) (hj : j = (i : Int) := by first | rfl | omega | (simp only [List.length_cons, List.length_append] at *; omega)) : NIdxS l j A := ⟨i, b, hj, hb, k⟩
theorem NIdxS.any {l : List UInt8} {j : Int} {A : UInt8 → Prop} (k : ∀ b : UInt8, l[j.toNat]? = some b → A b) (h : 0 ≤ j ∧ j < l.length := by (repeat' apply And.intro) <;> first | omega | rfl | (simp only [List.length_cons, List.length_nil, List.length_append, List.length_take, List.length_drop] at *; omega)) : NIdxS l j A := by
 have hlt : j.toNat < l.length := by omega
 exact NIdxS.at (List.getElem?_eq_getElem hlt) (k _ (List.getElem?_eq_getElem hlt)) (by omega)
theorem NSl.bytes {l : List UInt8} {lo hi mx : Int} {A : Nat → List D → Prop} (a b : Nat) (r : List UInt8) (e : (l.drop a).take (b - a) = r) (k : A r.length (bytesL r)) (h : lo = a ∧ hi = b ∧ a ≤ b ∧ (b : Int) ≤ mx ∧ mx ≤ l.length := by (repeat' apply And.intro) <;> first | omega | rfl | (simp only [List.length_cons, List.length_nil, List.length_append, List.length_take, List.length_drop] at *; omega)) : NSl (bytesL l) l.length 1 lo hi mx A := by
 subst e
 refine ⟨a, b, mx.toNat, _, _, by omega, by omega, by omega, by omega, by omega, by omega, ?_, ?_, k⟩
 ·rw [List.length_take, List.length_drop]; omega
 ·rw [Nat.mul_one, Nat.mul_one, List.length_take, List.length_drop, Nat.min_eq_left (by omega), bytesL_take, bytesL_drop]
theorem NSl.slice {l : List UInt8} {lo hi mx : Int} {A : Nat → List D → Prop} (a b : Nat) (k : A ((l.drop a).take (b - a)).length (bytesL ((l.drop a).take (b - a)))) (h : lo = a ∧ hi = b ∧ a ≤ b ∧ (b : Int) ≤ mx ∧ mx ≤ l.length := by (repeat' apply And.intro) <;> first | omega | rfl | (simp only [List.length_cons, List.length_nil, List.length_append, List.length_take, List.length_drop] at *; omega)) : NSl (bytesL l) l.length 1 lo hi mx A := .bytes a b _ rfl k h
theorem NSl.upto {l : List UInt8} {lo hi mx : Int} {A : Nat → List D → Prop} (b : Nat) (k : A (l.take b).length (bytesL (l.take b))) (h : lo = 0 ∧ hi = b ∧ (b : Int) ≤ mx ∧ mx ≤ l.length := by (repeat' apply And.intro) <;> first | omega | rfl | (simp only [List.length_cons, List.length_nil, List.length_append, List.length_take, List.length_drop] at *; omega)) : NSl (bytesL l) l.length 1 lo hi mx A := .bytes 0 b _ rfl (by simpa using k) (by omega)
theorem NSl.from {l : List UInt8} {lo hi mx : Int} {A : Nat → List D → Prop} (a : Nat) (k : A (l.drop a).length (bytesL (l.drop a))) (h : lo = a ∧ hi = l.length ∧ a ≤ l.length ∧ mx = l.length := by (repeat' apply And.intro) <;> first | omega | rfl | (simp only [List.length_cons, List.length_nil, List.length_append, List.length_take, List.length_drop] at *; omega)) : NSl (bytesL l) l.length 1 lo hi mx A := .bytes a l.length (l.drop a) (by rw [List.take_of_length_le (by rw [List.length_drop]; omega)]) k (by omega)
theorem NSl.tab {α : Type} {f : α → List D} {sz : Nat} {l : List α} {lo hi mx : Int} {A : Nat → List D → Prop} (hf : ∀ x, (f x).length = sz) (a b : Nat) (r : List α) (e : (l.drop a).take (b - a) = r) (k : A r.length (r.flatMap f)) (h : lo = a ∧ hi = b ∧ a ≤ b ∧ (b : Int) ≤ mx ∧ mx ≤ l.length := by (repeat' apply And.intro) <;> first | omega | rfl | (simp only [List.length_cons, List.length_nil, List.length_append, List.length_take, List.length_drop] at *; omega)) : NSl (l.flatMap f) l.length sz lo hi mx A := by
 subst e
 refine ⟨a, b, mx.toNat, _, _, by omega, by omega, by omega, by omega, by omega, by omega, ?_, ?_, k⟩
 ·rw [List.length_take, List.length_drop]; omega
 ·rw [List.length_take, List.length_drop, Nat.min_eq_left (by omega), flat_drop hf, flat_take hf]
theorem NSlS.bytes {l : List UInt8} {lo hi : Int} {A : List UInt8 → Prop} (a b : Nat) (k : A ((l.drop a).take (b - a))) (h : lo = a ∧ hi = b ∧ a ≤ b ∧ b ≤ l.length := by (repeat' apply And.intro) <;> first | omega | rfl | (simp only [List.length_cons, List.length_nil, List.length_append, List.length_take, List.length_drop] at *; omega)) : NSlS l lo hi A := ⟨a, b, _, h.1, h.2.1, h.2.2.1, h.2.2.2, rfl, k⟩
theorem NStr.go {l : List UInt8} {A : List UInt8 → Prop} (k : A l) : NStr (bytesL l) A := ⟨l, rfl, k⟩
theorem NStr.lit {cs : List D} (l : List UInt8) {A : List UInt8 → Prop} (k : A l) (h : cs = bytesL l := by rfl) : NStr cs A := ⟨l, h, k⟩
theorem NApp.bytes {l m : List UInt8} {A : Nat → List D → Prop} (k : A (l ++ m).length (bytesL (l ++ m))) (h : l.length + m.length ≤ 1000000000 := by (repeat' apply And.intro) <;> first | omega | rfl | (simp only [List.length_cons, List.length_nil, List.length_append, List.length_take, List.length_drop] at *; omega)) : NApp l.length l.length m.length (bytesL l) (bytesL m) A := ⟨rfl, h, _, _, by rw [List.length_append], by rw [bytesL_append], k⟩
theorem NApp.bytes0 {m : List UInt8} {A : Nat → List D → Prop} (k : A m.length (bytesL m)) (h : m.length ≤ 1000000000 := by (repeat' apply And.intro) <;> first | omega | rfl | (simp only [List.length_cons, List.length_nil, List.length_append, List.length_take, List.length_drop] at *; omega)) : NApp 0 0 m.length [] (bytesL m) A := ⟨rfl, by omega, _, _, Nat.zero_add _, rfl, k⟩
theorem bytesD1 {x : Int} {b : UInt8} (h : x = (b.toNat : Int)) : [D.v (.int .u8 x)] = bytesL [b] := by subst h; rfl
theorem NApp.byte {l : List UInt8} {x : Int} {A : Nat → List D → Prop} (b : UInt8) (k : A (l ++ [b]).length (bytesL (l ++ [b]))) (hx : x = (b.toNat : Int) := by rfl) (h : l.length + 1 ≤ 1000000000 := by (repeat' apply And.intro) <;> first | omega | rfl | (simp only [List.length_cons, List.length_nil, List.length_append, List.length_take, List.length_drop] at *; omega)) : NApp l.length l.length 1 (bytesL l) [.v (.int .u8 x)] A := ⟨rfl, h, _, _, by rw [List.length_append]; rfl, by rw [bytesL_append, bytesD1 hx], k⟩
theorem NApp.lit (l : List UInt8) {m : List UInt8} {n : Nat} {cs : List D} {A : Nat → List D → Prop} (k : A (l ++ m).length (bytesL (l ++ m))) (h1 : cs = bytesL l := by rfl) (h2 : n = l.length := by rfl) (h : l.length + m.length ≤ 1000000000 := by (repeat' apply And.intro) <;> first | omega | rfl | (simp only [List.length_cons, List.length_nil, List.length_append, List.length_take, List.length_drop] at *; omega)) : NApp n n m.length cs (bytesL m) A := by
 subst h1 h2; exact .bytes k h
theorem NApp.tab {α : Type} (f : α → List D) {l m : List α} {n : Nat} {ds : List D} {A : Nat → List D → Prop} (hd : ds = m.flatMap f) (hn : n = m.length) (k : A (l ++ m).length ((l ++ m).flatMap f)) (h : l.length + m.length ≤ 1000000000 := by (repeat' apply And.intro) <;> first | omega | rfl | (simp only [List.length_cons, List.length_nil, List.length_append, List.length_take, List.length_drop] at *; omega)) : NApp l.length l.length n (l.flatMap f) ds A := by
 subst hd hn; exact ⟨rfl, h, _, _, by rw [List.length_append], by rw [List.flatMap_append], k⟩
theorem NApp.one {α : Type} (f : α → List D) (x : α) {l : List α} {ds : List D} {A : Nat → List D → Prop} (k : A (l ++ [x]).length ((l ++ [x]).flatMap f)) (hd : ds = f x := by rfl) (h : l.length + 1 ≤ 1000000000 := by (repeat' apply And.intro) <;> first | omega | rfl | (simp only [List.length_cons, List.length_nil, List.length_append, List.length_take, List.length_drop] at *; omega)) : NApp l.length l.length 1 (l.flatMap f) ds A :=
 .tab f (m := [x]) (by subst hd; simp) rfl k h
theorem NApp.at {n' n m : Nat} {cs ds : List D} {A : Nat → List D → Prop} (r : Nat) (es : List D) (k : A r es) (h1 : n' = n := by rfl) (h2 : n + m ≤ 1000000000 := by (repeat' apply And.intro) <;> first | omega | rfl | (simp only [List.length_cons, List.length_nil, List.length_append, List.length_take, List.length_drop] at *; omega)) (h3 : n + m = r := by first | rfl | omega | (simp only [List.length_cons, List.length_append] at *; omega)) (h4 : cs ++ ds = es := by first | rfl | simp) : NApp n' n m cs ds A := ⟨h1, h2, r, es, h3, h4, k⟩
theorem NStep.go {P : Program} {C : Cx} {o : Oper} {tm : TM} {bx : BX} {tk : TK} {K : KS} {σ' : AS} (h : AStep P C o ⟨tm, bx, tk⟩ σ') (k : K σ'.tm σ'.bx σ'.tk) : NStep P C o tm bx tk K := ⟨op_step h k⟩
theorem NStep.some {P : Program} {C : Cx} {o : Oper} {tm : TM} {bx : BX} {tk : TK} {K : KS} {S : AS → Prop} (h : AStepS P C o ⟨tm, bx, tk⟩ S) (k : ∀ σ', S σ' → K σ'.tm σ'.bx σ'.tk) : NStep P C o tm bx tk K := ⟨S, h, k⟩
theorem NCall.eq {P : Program} {f : FuncId} {args fs : List AV} {A : AV → Prop} {r : AV} (h : ACalls P f fs (fun r' => r' = r)) (e : args = fs) (k : A r) : NCall P f args A := by subst e; exact ⟨r, h, k⟩
theorem NCode.go {P : Program} {C : Cx} {c : Code} {tm : TM} {bx : BX} {tk : TK} {kn : KS} {ke : Nat → KS} {kr : KS} (h : ACode P C c (toΦ kn ke kr) ⟨tm, bx, tk⟩) : NCode P C c tm bx tk kn ke kr := ⟨h⟩
mutual
def leD : D → D → Prop
 | .v a, y => match y with
   | .v b => (match a, b with
     | .int k a, .int k' b => k = k' ∧ a = b
     | .bool a, .bool b => a = b
     | a, b => a = b)
   | .sl _ n _ cs => a = .slice none 0 0 ∧ n = 0 ∧ cs = []
   | _ => False
 | .sl t n sz cs, y => match y with
   | .sl t' n' sz' cs' => (t = true ∨ t = t') ∧ n = n' ∧ sz = sz' ∧ (cs = cs' ∨ leDz cs cs')
   | _ => False
 | .cp t ds, y => .cp t ds = y
 | .fn f cs, y => .fn f cs = y
def leDz : List D → List D → Prop
 | [], ys => match ys with
   | [] => True
   | _ => False
 | x :: xs, ys => match ys with
   | y :: ys => leD x y ∧ leDz xs ys
   | [] => False
end
mutual
theorem leD_ok : ∀ {x y : D}, leD x y → D.le x y
 | .v a, .v b, h => by
   have : a = b := by
    simp only [leD] at h
    split at h
    ·obtain ⟨rfl, rfl⟩ := h; rfl
    ·subst h; rfl
    ·exact h
   subst this; exact .refl _
 | .v a, .sl t n sz cs, h => by
   simp only [leD] at h
   obtain ⟨rfl, rfl, rfl⟩ := h; exact .nil _ _
 | .v _, .cp _ _, h => by simp only [leD] at h
 | .v _, .fn _ _, h => by simp only [leD] at h
 | .sl t n sz cs, .sl t' n' sz' cs', h => by
   simp only [leD] at h
   obtain ⟨h1, rfl, rfl, h2⟩ := h
   have e1 : D.le (.sl t n sz cs) (.sl t' n sz cs) := by
    rcases h1 with rfl | rfl
    ·exact .tag _ _ _ _
    ·exact .refl _
   rcases h2 with rfl | h2
   ·exact e1
   ·obtain ⟨k1, k2⟩ := leDz_ok h2
    exact .trans e1 (.sl k1 k2)
 | .sl _ _ _ _, .v _, h => by simp only [leD] at h
 | .sl _ _ _ _, .cp _ _, h => by simp only [leD] at h
 | .sl _ _ _ _, .fn _ _, h => by simp only [leD] at h
 | .cp t ds, y, h => by simp only [leD] at h; subst h; exact .refl _
 | .fn f cs, y, h => by simp only [leD] at h; subst h; exact .refl _
theorem leDz_ok : ∀ {xs ys : List D}, leDz xs ys → xs.length = ys.length ∧ ∀ (i : Nat) x y, xs[i]? = some x → ys[i]? = some y → D.le x y
 | [], [], _ => ⟨rfl, fun i x y hx => by simp at hx⟩
 | [], _ :: _, h => by simp only [leDz] at h
 | _ :: _, [], h => by simp only [leDz] at h
 | x :: xs, y :: ys, h => by
   simp only [leDz] at h
   obtain ⟨k1, k2⟩ := leDz_ok h.2
   refine ⟨by simp [k1], fun i a b ha hb => ?_⟩
   cases i with
   | zero => simp at ha hb; subst ha hb; exact leD_ok h.1
   | succ i => exact k2 i a b (by simpa using ha) (by simpa using hb)
end
mutual
def leW : AV → AV → Prop
 | .d x, v => match v with
   | .d y => leD x y
   | _ => False
 | .own k n sz e cs, v => match v with
   | .d (.sl _ n' sz' cs') => n = n' ∧ sz = sz' ∧ cs = cs'
   | .own k' n' sz' e' cs' => k = k' ∧ n = n' ∧ sz = sz' ∧ e = e' ∧ cs = cs'
   | _ => False
 | .ptr k o, v => match v with
   | .ptr k' o' => k = k' ∧ o = o'
   | _ => False
 | .agg us, v => match v with
   | .agg vs => leWs us vs
   | _ => False
 | .tup us, v => match v with
   | .tup vs => leWs us vs
   | _ => False
 | .sem φ, v => match v with
   | .sem ψ => φ = ψ
   | .d y => ∃ x, AV.sem φ = AV.fz x ∧ x.un = y
   | _ => False
 | .cl f fs cs, v => AV.cl f fs cs = v
 | .pk k o n sz, v => AV.pk k o n sz = v
def leWs : List AV → List AV → Prop
 | [], vs => match vs with
   | [] => True
   | _ => False
 | u :: us, vs => match vs with
   | v :: vs => leW u v ∧ leWs us vs
   | [] => False
end
mutual
theorem leW_ok : ∀ {u v : AV}, leW u v → AV.le u v
 | .d x, .d y, h => .d (leD_ok (by simpa only [leW] using h))
 | .own k n sz e cs, .d (.sl t n' sz' cs'), h => by simp only [leW] at h; obtain ⟨rfl, rfl, rfl⟩ := h; exact .own _ _ _ _ _ _
 | .own k n sz e cs, .own k' n' sz' e' cs', h => by simp only [leW] at h; obtain ⟨rfl, rfl, rfl, rfl, rfl⟩ := h; exact .refl _
 | .ptr k o, .ptr k' o', h => by simp only [leW] at h; obtain ⟨rfl, rfl⟩ := h; exact .refl _
 | .agg us, .agg vs, h => AV.le_agg (leWs_ok (by simpa only [leW] using h))
 | .tup us, .tup vs, h => AV.le_tup (leWs_ok (by simpa only [leW] using h))
 | .cl f fs cs, v, h => by simp only [leW] at h; subst h; exact .refl _
 | .pk k o n sz, v, h => by simp only [leW] at h; subst h; exact .refl _
 | .d _, .cl _ _ _, h => by simp only [leW] at h
 | .d _, .pk _ _ _ _, h => by simp only [leW] at h
 | .ptr _ _, .cl _ _ _, h => by simp only [leW] at h
 | .ptr _ _, .pk _ _ _ _, h => by simp only [leW] at h
 | .own _ _ _ _ _, .cl _ _ _, h => by simp only [leW] at h
 | .own _ _ _ _ _, .pk _ _ _ _, h => by simp only [leW] at h
 | .agg _, .cl _ _ _, h => by simp only [leW] at h
 | .agg _, .pk _ _ _ _, h => by simp only [leW] at h
 | .tup _, .cl _ _ _, h => by simp only [leW] at h
 | .tup _, .pk _ _ _ _, h => by simp only [leW] at h
 | .sem _, .cl _ _ _, h => by simp only [leW] at h
 | .sem _, .pk _ _ _ _, h => by simp only [leW] at h
 | .sem φ, .sem ψ, h => by simp only [leW] at h; subst h; exact .refl _
 | .sem φ, .d y, h => by simp only [leW] at h; obtain ⟨x, h1, rfl⟩ := h; rw [h1]; exact .z x
 | .sem _, .ptr _ _, h => by simp only [leW] at h
 | .sem _, .own _ _ _ _ _, h => by simp only [leW] at h
 | .sem _, .agg _, h => by simp only [leW] at h
 | .sem _, .tup _, h => by simp only [leW] at h
 | .d _, .sem _, h => by simp only [leW] at h
 | .ptr _ _, .sem _, h => by simp only [leW] at h
 | .own _ _ _ _ _, .sem _, h => by simp only [leW] at h
 | .agg _, .sem _, h => by simp only [leW] at h
 | .tup _, .sem _, h => by simp only [leW] at h
 | .d _, .ptr _ _, h => by simp only [leW] at h
 | .d _, .own _ _ _ _ _, h => by simp only [leW] at h
 | .d _, .agg _, h => by simp only [leW] at h
 | .d _, .tup _, h => by simp only [leW] at h
 | .own _ _ _ _ _, .d (.v _), h => by simp only [leW] at h
 | .own _ _ _ _ _, .d (.cp _ _), h => by simp only [leW] at h
 | .own _ _ _ _ _, .d (.fn _ _), h => by simp only [leW] at h
 | .own _ _ _ _ _, .ptr _ _, h => by simp only [leW] at h
 | .own _ _ _ _ _, .agg _, h => by simp only [leW] at h
 | .own _ _ _ _ _, .tup _, h => by simp only [leW] at h
 | .ptr _ _, .d _, h => by simp only [leW] at h
 | .ptr _ _, .own _ _ _ _ _, h => by simp only [leW] at h
 | .ptr _ _, .agg _, h => by simp only [leW] at h
 | .ptr _ _, .tup _, h => by simp only [leW] at h
 | .agg _, .d _, h => by simp only [leW] at h
 | .agg _, .own _ _ _ _ _, h => by simp only [leW] at h
 | .agg _, .ptr _ _, h => by simp only [leW] at h
 | .agg _, .tup _, h => by simp only [leW] at h
 | .tup _, .d _, h => by simp only [leW] at h
 | .tup _, .own _ _ _ _ _, h => by simp only [leW] at h
 | .tup _, .ptr _ _, h => by simp only [leW] at h
 | .tup _, .agg _, h => by simp only [leW] at h
theorem leWs_ok : ∀ {us vs : List AV}, leWs us vs → AV.les us vs
 | [], [], _ => .nil
 | u :: us, v :: vs, h => by simp only [leWs] at h; exact .cons (leW_ok h.1) (leWs_ok h.2)
 | [], _ :: _, h => by simp only [leWs] at h
 | _ :: _, [], h => by simp only [leWs] at h
end
theorem NCall.le {P : Program} {f : FuncId} {args fs : List AV} {A : AV → Prop} {r : AV} (h : ACalls P f fs (fun r' => r' = r)) (e : leWs args fs) (k : A r) : NCall P f args A := ⟨r, h.les (leWs_ok e), k⟩
theorem leD_refl : ∀ x : D, leD x x
 | .v a => by cases a <;> simp only [leD] <;> first | trivial | exact ⟨trivial, trivial⟩
 | .sl t n sz cs => by simp only [leD]; exact ⟨.inr trivial, trivial, trivial, .inl trivial⟩
 | .cp t ds => by simp only [leD]
 | .fn f cs => by simp only [leD]
mutual
theorem leW_refl : ∀ u : AV, leW u u
 | .d x => by simp only [leW]; exact leD_refl x
 | .own k n sz e cs => by simp only [leW]; exact ⟨trivial, trivial, trivial, trivial, trivial⟩
 | .ptr k o => by simp only [leW]; exact ⟨trivial, trivial⟩
 | .agg us => by simp only [leW]; exact leWs_refl us
 | .tup us => by simp only [leW]; exact leWs_refl us
 | .sem φ => by simp only [leW]
 | .cl f fs cs => by simp only [leW]
 | .pk k o n sz => by simp only [leW]
theorem leWs_refl : ∀ us : List AV, leWs us us
 | [] => by simp only [leWs]
 | u :: us => by simp only [leWs]; exact ⟨leW_refl u, leWs_refl us⟩
end
def ownW (tk : TK) (k n sz : Nat) (e : TypeId) (n' sz' : Nat) (e' : TypeId) (cs cs' : List D) : Prop :=
 match lk k tk with
 | some (a, b, c) => (a = n ∧ b = sz ∧ c = e) ∧ n = n' ∧ sz = sz' ∧ e = e' ∧ cs = cs'
 | none => False
def finW (tk : TK) (u X : AV) : Prop :=
 match X with
 | .own 0 n' sz' e' cs' => (match u with
   | .own k n sz e cs => ownW tk k n sz e n' sz' e' cs cs'
   | _ => False)
 | .tup (.own 0 n' sz' e' cs' :: rs) => (match u with
   | .tup (.own k n sz e cs :: us) => ownW tk k n sz e n' sz' e' cs cs' ∧ AV.datas rs = true ∧ leWs us rs
   | _ => False)
 | X => X.data = true ∧ leW u X
theorem ownW_ok {tm : TM} {bx : BX} {tk : TK} {k n sz : Nat} {e : TypeId} {n' sz' : Nat} {e' : TypeId} {cs cs' : List D} (h : ownW tk k n sz e n' sz' e' cs cs') : lk k (AS.mk tm bx tk).tk = some (n, sz, e) ∧ n = n' ∧ sz = sz' ∧ e = e' ∧ cs = cs' := by
 unfold ownW at h
 split at h
 ·rename_i a b c hk
  obtain ⟨⟨rfl, rfl, rfl⟩, h⟩ := h
  exact ⟨hk, h⟩
 ·exact h.elim
theorem fin_ok {tm : TM} {bx : BX} {tk : TK} {u X : AV} (h : finW tk u X) : Fini ⟨tm, bx, tk⟩ u X := by
 unfold finW at h
 split at h
 ·split at h
  ·obtain ⟨h1, rfl, rfl, rfl, rfl⟩ := ownW_ok (tm := tm) (bx := bx) h
   exact .own h1
  ·exact h.elim
 ·split at h
  ·obtain ⟨h, hd, hl⟩ := h
   obtain ⟨h1, rfl, rfl, rfl, rfl⟩ := ownW_ok (tm := tm) (bx := bx) h
   exact .tup h1 hd (leWs_ok hl)
  ·exact h.elim
 ·exact .data h.1 (leW_ok h.2)
theorem NEnd.eq {tm : TM} {bx : BX} {tk : TK} {u X : AV} (h : finW tk u X) : NEnd tm bx tk u (fun r => r = X) := ⟨X, fin_ok h, rfl⟩
theorem NEnd.of {tm : TM} {bx : BX} {tk : TK} {u : AV} {Φ : AV → Prop} (X : AV) (h : finW tk u X) (hX : Φ X) : NEnd tm bx tk u Φ := ⟨X, fin_ok h, hX⟩
mutual
def AV.dat : AV → AV
 | .d x => .d x
 | .ptr k o => .ptr k o
 | .own _ n sz _ cs => .d (.sl true n sz cs)
 | .agg cs => .agg (AV.dats cs)
 | .tup cs => .tup (AV.dats cs)
 | .sem φ => .sem φ
 | .cl f fs cs => .cl f fs cs
 | .pk k o n sz => .pk k o n sz
def AV.dats : List AV → List AV
 | [] => []
 | c :: r => c.dat :: AV.dats r
end
mutual
theorem AV.le_dat : ∀ u : AV, AV.le u u.dat
 | .d _ => .refl _
 | .ptr _ _ => .refl _
 | .own _ _ _ _ _ => .own _ _ _ _ _ _
 | .agg cs => AV.le_agg (AV.les_dats cs)
 | .tup cs => AV.le_tup (AV.les_dats cs)
 | .sem _ => .refl _
 | .cl _ _ _ => .refl _
 | .pk _ _ _ _ => .refl _
theorem AV.les_dats : ∀ us : List AV, AV.les us (AV.dats us)
 | [] => .nil
 | u :: us => .cons (AV.le_dat u) (AV.les_dats us)
end
theorem NEnd.dat {tm : TM} {bx : BX} {tk : TK} {u : AV} {Φ : AV → Prop} (h : u.dat.data = true) (hX : Φ u.dat) : NEnd tm bx tk u Φ := ⟨u.dat, .data h (AV.le_dat u), hX⟩
noncomputable def wkWt (tm σ : TM) : Prop := @List.rec (Nat × AV) (fun _ => Prop) True (fun p _ ih => (match lk p.1 tm with
 | some u => leW u p.2
 | none => False) ∧ ih) σ
noncomputable def wkWb (bx σ : BX) : Prop := @List.rec (Nat × List AV) (fun _ => Prop) True (fun p _ ih => (match lk p.1 bx with
 | some u => leWs u p.2
 | none => False) ∧ ih) σ
noncomputable def wkWk (tk σ : TK) : Prop := @List.rec (Nat × Nat × Nat × TypeId) (fun _ => Prop) True (fun p _ ih => (match lk p.1 tk with
 | some u => u = p.2
 | none => False) ∧ ih) σ
noncomputable def wkW (tm : TM) (bx : BX) (tk : TK) (σ : AS) : Prop := wkWt tm σ.tm ∧ wkWb bx σ.bx ∧ wkWk tk σ.tk
theorem wkW_ok {tm : TM} {bx : BX} {tk : TK} {σ : AS} (h : wkW tm bx tk σ) : Weak ⟨tm, bx, tk⟩ σ := by
 obtain ⟨h1, h2, h3⟩ := h
 obtain ⟨t, b, q⟩ := σ
 refine weak_of ?_ ?_ ?_
 ·have gen : ∀ l : TM, wkWt tm l → wkT ⟨tm, bx, tk⟩ l := by
   intro l
   induction l with
   | nil => intro _; exact trivial
   | cons p r ih =>
     intro h
     obtain ⟨k, u'⟩ := p
     obtain ⟨h4, h5⟩ : (match lk k tm with | some u => leW u u' | none => False) ∧ wkWt tm r := h
     split at h4
     ·rename_i u hu; exact ⟨⟨u, hu, leW_ok h4⟩, ih h5⟩
     ·exact h4.elim
  exact gen t h1
 ·have gen : ∀ l : BX, wkWb bx l → wkB ⟨tm, bx, tk⟩ l := by
   intro l
   induction l with
   | nil => intro _; exact trivial
   | cons p r ih =>
     intro h
     obtain ⟨k, u'⟩ := p
     obtain ⟨h4, h5⟩ : (match lk k bx with | some u => leWs u u' | none => False) ∧ wkWb bx r := h
     split at h4
     ·rename_i u hu; exact ⟨⟨u, hu, leWs_ok h4⟩, ih h5⟩
     ·exact h4.elim
  exact gen b h2
 ·have gen : ∀ l : TK, wkWk tk l → wkK ⟨tm, bx, tk⟩ l := by
   intro l
   induction l with
   | nil => intro _; exact trivial
   | cons p r ih =>
     intro h
     obtain ⟨k, u'⟩ := p
     obtain ⟨h4, h5⟩ : (match lk k tk with | some u => u = u' | none => False) ∧ wkWk tk r := h
     split at h4
     ·rename_i u hu; exact ⟨by rw [← h4]; exact hu, ih h5⟩
     ·exact h4.elim
  exact gen q h3
theorem ent_of {tm : TM} {bx : BX} {tk : TK} {σ : AS} (h : wkW tm bx tk σ) : Ent ⟨tm, bx, tk⟩ σ := fun _ _ _ hG => hG.weak (wkW_ok h)
theorem ent_adopt {σ : AS} (t sz : Nat) (e : TypeId) (hb : lk t σ.tm = some (.d (.v (.slice none 0 0)))) (hc : σ.clean t = true) : Ent σ ⟨(t, .own t 0 sz e []) :: σ.tm, σ.bx, (t, 0, sz, e) :: σ.tk⟩ := by
 rintro C a w ⟨bm, gt, fp, hg⟩
 obtain ⟨v, k1, k2⟩ := hg.tm t _ hb
 have hA := hg.adopt hc sz e
 have hR : RA C.W.heap.size fp w bm (updG gt t (.slice none 0 0)) (.own t 0 sz e []) v := by
  rw [k2.val]
  have : updG gt t (.slice none 0 0) t = .slice none 0 0 := updG_same _ _ _
  conv => rhs; rw [← this]
  refine .own ?_
  rw [this]
  exact rd_nil_sl _ _
 refine ⟨_, _, _, { hA with tm := fun s u hu => ?_ }⟩
 by_cases e : t = s
 ·subst e
  simp only [lk_same, Option.some.injEq] at hu
  subst hu
  exact ⟨v, k1, hR⟩
 ·simp only [lk_ne _ _ e] at hu
  exact hA.tm s u hu
theorem ent_adoptB {σ : AS} (q off k sz : Nat) (e : TypeId) {cs : List AV} (hb : lk q σ.bx = some cs) (hn : cs[off]? = some (.d (.v (.slice none 0 0)))) (hc : σ.clean k = true) : Ent σ ⟨σ.tm, (q, cs.set off (.own k 0 sz e [])) :: σ.bx, (k, 0, sz, e) :: σ.tk⟩ := by
 rintro C a w ⟨bm, gt, fp, hg⟩
 have hA := hg.adopt hc sz e
 have hB := hA.bx q cs hb
 have hlt : off < cs.length := (List.getElem?_eq_some_iff.1 hn).1
 have hnew : BoxOk C.W.heap.size fp w bm (updG gt k (.slice none 0 0)) (bm q) (cs.set off (.own k 0 sz e [])) := by
  obtain ⟨cur, et, h1, h2, h3⟩ := hB.obj
  refine ⟨hB.own, hB.un, cur, et, h1, by rw [List.length_set]; exact h2, fun i u v hu hv => ?_⟩
  by_cases ho : off = i
  ·subst ho
   rw [List.getElem?_set_self hlt] at hu
   cases hu
   have hv2 := (h3 off _ v hn hv).val
   rw [hv2]
   have : updG gt k (.slice none 0 0) k = .slice none 0 0 := updG_same _ _ _
   conv => rhs; rw [← this]
   refine .own ?_
   rw [this]
   exact rd_nil_sl _ _
  ·rw [List.getElem?_set_ne ho] at hu
   exact h3 i u v hu hv
 refine ⟨_, _, _, { hA with bx := fun j c hj => ?_, bxi := fun j j' c c' hj hj' => ?_, tkb := fun j j' x c hj hj' => ?_ }⟩
 ·by_cases ej : q = j
  ·subst ej; simp only [lk_same, Option.some.injEq] at hj; subst hj; exact hnew
  ·simp only [lk_ne _ _ ej] at hj; exact hA.bx j c hj
 ·have hh : ∀ j c, lk j ((q, cs.set off (.own k 0 sz e [])) :: σ.bx) = some c → ∃ c', lk j σ.bx = some c' := fun j c hj => by
   by_cases ej : q = j
   ·subst ej; exact ⟨cs, hb⟩
   ·simp only [lk_ne _ _ ej] at hj; exact ⟨c, hj⟩
  obtain ⟨d, hd⟩ := hh j c hj
  obtain ⟨d', hd'⟩ := hh j' c' hj'
  exact hA.bxi j j' d d' hd hd'
 ·by_cases ej : q = j'
  ·subst ej; exact hA.tkb j q x cs hj hb
  ·simp only [lk_ne _ _ ej] at hj'; exact hA.tkb j j' x c hj hj'
inductive Ad where
 | s (t sz : Nat) (e : TypeId)
 | b (q off k sz : Nat) (e : TypeId)
noncomputable def adW (ad : List Ad) : TM → BX → TK → KS → Prop :=
 @List.rec Ad (fun _ => TM → BX → TK → KS → Prop) (fun tm bx tk K => K tm bx tk) (fun p _ ih tm bx tk K => match p with
  | .s t sz e => (match lk t tm with
    | some (.d (.v (.slice none 0 0))) => bif clT t tm && clB t bx then ih ((t, .own t 0 sz e []) :: tm) bx ((t, 0, sz, e) :: tk) K else False
    | _ => False)
  | .b q off k sz e => (match lk q bx with
    | some cs => (match cs[off]? with
      | some (.d (.v (.slice none 0 0))) => bif clT k tm && clB k bx then forceL (cs.set off (.own k 0 sz e [])) (fun cs' => ih tm ((q, cs') :: bx) ((k, 0, sz, e) :: tk) K) else False
      | _ => False)
    | none => False)) ad
theorem adW_ok {σ : AS} : ∀ {ad : List Ad} {tm : TM} {bx : BX} {tk : TK}, adW ad tm bx tk (fun tm bx tk => wkW tm bx tk σ) → Ent ⟨tm, bx, tk⟩ σ
 | [], tm, bx, tk, h => ent_of h
 | .s t sz e :: r, tm, bx, tk, h => by
   have h' : (match lk t tm with
    | some (.d (.v (.slice none 0 0))) => bif clT t tm && clB t bx then adW r ((t, .own t 0 sz e []) :: tm) bx ((t, 0, sz, e) :: tk) (fun tm bx tk => wkW tm bx tk σ) else False
    | _ => False) := h
   clear h
   split at h'
   ·rename_i hl
    cases hc : (clT t tm && clB t bx) with
    | true =>
      rw [hc] at h'
      exact fun C a w hG => adW_ok h' C a w (ent_adopt (σ := ⟨tm, bx, tk⟩) t sz e hl hc C a w hG)
    | false => rw [hc] at h'; exact h'.elim
   ·exact h'.elim
 | .b q off k sz e :: r, tm, bx, tk, h => by
   have h' : (match lk q bx with
    | some cs => (match cs[off]? with
      | some (.d (.v (.slice none 0 0))) => bif clT k tm && clB k bx then forceL (cs.set off (.own k 0 sz e [])) (fun cs' => adW r tm ((q, cs') :: bx) ((k, 0, sz, e) :: tk) (fun tm bx tk => wkW tm bx tk σ)) else False
      | _ => False)
    | none => False) := h
   clear h
   split at h'
   ·rename_i cs hq
    split at h'
    ·rename_i hn
     cases hc : (clT k tm && clB k bx) with
     | true =>
       rw [hc] at h'
       have h' := forceL_eq h'
       exact fun C a w hG => adW_ok h' C a w (ent_adoptB (σ := ⟨tm, bx, tk⟩) q off k sz e hq hn hc C a w hG)
     | false => rw [hc] at h'; exact h'.elim
    ·exact h'.elim
   ·exact h'.elim
theorem NLoop.go {α : Type} {tm : TM} {bx : BX} {tk : TK} {R : KS → KS} (inv : α → Prop) (ms : α → Nat) (st : α → AS) (a0 : α) (h0 : inv a0) (w0 : wkW tm bx tk (st a0))
 (round : ∀ a, inv a → R (fun tm' bx' tk' => ∃ a', inv a' ∧ ms a' < ms a ∧ wkW tm' bx' tk' (st a')) (st a).tm (st a).bx (st a).tk) : NLoop tm bx tk R :=
 ⟨α, inv, ms, st, fun a b => wkW a.tm a.bx a.tk b, a0, fun _ _ h => ent_of h, h0, ent_of w0, round⟩
theorem NLoop.goA {α : Type} {tm : TM} {bx : BX} {tk : TK} {R : KS → KS} (ad : List Ad) (inv : α → Prop) (ms : α → Nat) (st : α → AS) (a0 : α) (h0 : inv a0) (w0 : adW ad tm bx tk (fun tm bx tk => wkW tm bx tk (st a0)))
 (round : ∀ a, inv a → R (fun tm' bx' tk' => ∃ a', inv a' ∧ ms a' < ms a ∧ wkW tm' bx' tk' (st a')) (st a).tm (st a).bx (st a).tk) : NLoop tm bx tk R :=
 ⟨α, inv, ms, st, fun a b => wkW a.tm a.bx a.tk b, a0, fun _ _ h => ent_of h, h0, adW_ok w0, round⟩
end Go.Proofs.YtblabcopgeobgaaGreatDoor

namespace Go.Proofs.YtblabcopgeobgaaGreatDoor
open Go.RowKit
theorem GG.takeBox {C : Cx} {bm : BM} {gt : Nat → Value} {fp : Nat → Nat → Prop} {σ : AS} {a : Act} {w w' : World} (h : GG C bm gt fp σ a w) {k g : Nat} (hb0 : Below w.heap.size w w') (hc : σ.clean k = true) {cs : List AV} (hcc : AV.cleans k cs = true) {cur : Array Value} {e : TypeId} (hg : w.heap.size ≤ g) (hobj : w'.heap[g]? = some (.cells cur e (0, 0)))
 (hl : cs.length ≤ cur.size) (hr : ∀ (i : Nat) u v, cs[i]? = some u → cur[i]? = some v → RA C.W.heap.size fp w' bm gt u v) :
 GG C (bm.set k g) gt fp { σ with bx := (k, cs) :: σ.bx } a w' := by
 have h' := h.grow hb0
 simp only [AS.clean, Bool.and_eq_true] at hc
 have turn : ∀ {u v w2}, RA C.W.heap.size fp w2 bm gt u v → u.clean k = true → RA C.W.heap.size fp w2 (bm.set k g) gt u v := fun hr hcl => hr.turn (k := k) (fun j hj => BM.set_ne bm k _ hj) (fun _ _ x => x) (fun _ _ => rfl) hcl
 refine { sz := h.sz, nN := h.nN, gd := h.gd, za := h.za, zb := h.zb, zf := h.zf, ztk := h.ztk, df := h.df, tm := fun t u hu => ?_, bx := fun j c hj => ?_, bxi := fun j j' c c' hj hj' he => ?_, tk := h'.tk, tki := h.tki, tkb := fun j j' x c hj hj' => ?_, fpb := h'.fpb, fp0 := h.fp0, fpB := h.fpB, bel := h'.bel }
 ·obtain ⟨v, h1, h2⟩ := h'.tm t u hu
  exact ⟨v, h1, turn h2 (lk_clT hc.1 hu)⟩
 ·by_cases ej : k = j
  ·subst ej
   simp only [lk_same, Option.some.injEq] at hj
   subst hj
   refine ⟨?_, fun o hf => ?_, cur, e, ?_, hl, fun i u v hu hv => ?_⟩
   ·rw [BM.set_same]; exact Nat.le_trans h.bel.size hg
   ·rw [BM.set_same] at hf; have := (h.fpb _ _ hf).2; omega
   ·rw [BM.set_same]; exact hobj
   ·exact turn (hr i u v hu hv) (AV.cleans_get hcc hu)
  ·simp only [lk_ne _ _ ej] at hj
   have hy := h'.bx j c hj
   obtain ⟨cur2, e2, h1, h2, h3⟩ := hy.obj
   have hne : (bm.set k g).m j = bm.m j := BM.set_ne bm k _ (fun e => ej e.symm)
   refine ⟨by rw [hne]; exact hy.own, by rw [hne]; exact hy.un, cur2, e2, by rw [hne]; exact h1, h2, fun i u v hu hv => turn (h3 i u v hu hv) (AV.cleans_get (lk_clB hc.2 hj) hu)⟩
 ·have lt : ∀ (i : Nat) d, k ≠ i → lk i ((k, cs) :: σ.bx) = some d → lk i σ.bx = some d ∧ bm i < w.heap.size := fun i d hne hd => by
   rw [lk_ne _ _ hne] at hd; exact ⟨hd, (h.bx i d hd).lt⟩
  by_cases e1 : j = k
  ·by_cases e2 : j' = k
   ·rw [e1, e2]
   ·rw [e1, BM.set_same, BM.set_ne bm k _ e2] at he
    have := (lt j' c' (fun e => e2 e.symm) hj').2
    omega
  ·by_cases e2 : j' = k
   ·rw [e2, BM.set_same, BM.set_ne bm k _ e1] at he
    have := (lt j c (fun e => e1 e.symm) hj).2
    omega
   ·rw [BM.set_ne bm k _ e1, BM.set_ne bm k _ e2] at he
    exact h.bxi j j' c c' (lt j c (fun e => e1 e.symm) hj).1 (lt j' c' (fun e => e2 e.symm) hj').1 he
 ·by_cases e2 : j' = k
  ·rw [e2, BM.set_same]
   obtain ⟨xs, hxs⟩ := (h.tk j x.1 x.2.1 x.2.2 hj).own
   intro ho
   have := (hxs.lt _ ho).2
   omega
  ·rw [BM.set_ne bm k _ e2]
   simp only [lk_ne _ _ (fun e => e2 e.symm : k ≠ j')] at hj'
   exact h.tkb j j' x c hj hj'
def D.flat : D → Bool
 | .v _ => true
 | _ => false
def AV.flat0 : AV → Bool
 | .d x => x.flat
 | _ => false
theorem RA.flat0 {B B' : Nat} {fp fp' : Nat → Nat → Prop} {w w' : World} {bm bm' : BM} {gt gt' : Nat → Value} {u : AV} {v : Value} (h : RA B fp w bm gt u v) (hf : u.flat0 = true) : RA B' fp' w' bm' gt' u v := by
 cases u with
 | d x =>
   cases x with
   | v x => rw [h.val]; exact .d (.v x)
   | _ => cases hf
 | _ => cases hf
def flatL (l : List D) : Bool := l.all D.flat
def flatA (l : List AV) : Bool := l.all AV.flat0
theorem flatL_bytes (l : List UInt8) : flatL (bytesL l) = true := by
 unfold flatL bytesL
 rw [List.all_eq_true]
 intro x hx
 obtain ⟨b, -, rfl⟩ := List.mem_map.1 hx
 rfl
theorem cleans_flat (k : Nat) : ∀ l : List D, AV.cleans k (l.map AV.d) = true
 | [] => rfl
 | x :: r => by rw [List.map_cons, AV.cleans, cleans_flat k r]; rfl
section
variable {P : Program} {C : Cx} {o : Oper} {σ : AS} {t : Nat}
theorem GG.backX {bm : BM} {gt : Nat → Value} {fp : Nat → Nat → Prop} {a : Act} {w w' : World} (h : GG C bm gt fp σ a w) {κ : Nat} (hc : σ.clean κ = true) {n sz : Nat} {e : TypeId} {cs : List D} {v : Value} (hb : Below w.heap.size w w') (hn : 0 < n) (hcs : flatL cs = true) {fpc : Nat → Nat → Prop} {zc : Nat → Nat → Prop} {gtc : Nat → Value}
 (hra : RA w.heap.size fpc w' ⟨fun _ => 0, zc⟩ gtc (.own 0 n sz e cs) v) (htok : TokOk w.heap.size fpc w' (gtc 0) n sz e) :
 ∃ g, GG C (bm.set κ g) gt fp { σ with bx := (κ, cs.map AV.d) :: σ.bx } a w' ∧ RA C.W.heap.size fp w' (bm.set κ g) gt (.pk κ 0 n sz) v := by
 generalize hq : AV.own 0 n sz e cs = q at hra
 cases hra with
 | own hx =>
   cases hq
   obtain ⟨xs, hxl, hxs⟩ := htok.own
   rcases hxs with ⟨h1, h2⟩ | ⟨g, cap, cur, h1, h2, h3, h4, h5, h6, h7⟩
   ·omega
   ·rw [h1] at hx
    generalize hv : Value.slice (some ⟨g, 0, none⟩) n cap = u at hx
    cases hx with
    | sl us k1 k2 k3 k4 k5 k6 k7 k8 =>
      cases hv
      have hcur : ∀ (i : Nat) u, us[i]? = some u → cur[i]? = some u := fun i u hu => by
       obtain ⟨b, o', e1, -, -, e4⟩ := k8 i u hu
       cases e1
       rw [cell_of_row w' _ _ _ _ _ h3, Nat.zero_add] at e4
       exact e4
      have hlen : cs.length ≤ cur.size := by
       rw [k3, h6]; exact Nat.mul_le_mul_right _ h4
      refine ⟨g, h.takeBox hb hc (cleans_flat κ cs) h2 h3 (by rw [List.length_map]; exact hlen) (fun i u v hu hv => ?_), ?_⟩
      ·rw [List.getElem?_map, Option.map_eq_some_iff] at hu
       obtain ⟨d, hd, rfl⟩ := hu
       have hlt := (List.getElem?_eq_some_iff.1 hd).1
       have hus : us[i]? = some us[i] := List.getElem?_eq_getElem (by omega)
       have := k7 i d _ hd hus
       have e := hcur i _ hus
       rw [hv] at e
       cases e
       have hf : d.flat = true := List.all_eq_true.1 hcs d (List.mem_of_getElem? hd)
       exact (RA.d (gt := gt) (bm := bm) this).flat0 hf
      ·rw [h1]
       have hh : RA C.W.heap.size fp w' (bm.set κ g) gt (.pk κ 0 n sz) (.slice (some ⟨(bm.set κ g).m κ, 0, none⟩) n cap) := .pk k1 k2
       rw [BM.set_same] at hh
       exact hh
 | d => cases hq
 | ptr => cases hq
 | agg => cases hq
 | tup => cases hq
 | sem => cases hq
 | cl => cases hq
 | pk => cases hq
theorem GG.backX' {bm : BM} {gt : Nat → Value} {fp : Nat → Nat → Prop} {a : Act} {w w' : World} (h : GG C bm gt fp σ a w) (ht : t < C.N) {κ : Nat} (hc : σ.clean κ = true) {n sz : Nat} {e : TypeId} {cs : List D} {rs : List AV} {v : Value} (hb : Below w.heap.size w w') (hn : 0 < n) (hcs : flatL cs = true) (hrs : flatA rs = true)
 (hr : ResOk w fp bm.z w' (.tup (.own 0 n sz e cs :: rs)) v) : G C ⟨(t, .tup (.pk κ 0 n sz :: rs)) :: σ.tm, (κ, cs.map AV.d) :: σ.bx, σ.tk⟩ (a.put (some t) v) w' := by
 obtain ⟨hok, fpc, gtc, zc, hfc, hra, htok, hzA, hzB, hzC⟩ := hr
 cases hra with
 | tup vs h4 h7 =>
   cases vs with
   | nil => simp at h4
   | cons v0 vs =>
     obtain ⟨g, h1, h2⟩ := h.backX hc hb hn hcs (h7 0 _ v0 rfl rfl) (htok n sz e rfl).1
     refine ⟨_, _, _, h1.put ht (.tup (v0 :: vs) (by simpa using h4) fun i u x hu hx => ?_)⟩
     cases i with
     | zero => simp at hu hx; subst hu hx; exact h2
     | succ i =>
       have hu' : rs[i]? = some u := by simpa using hu
       exact (h7 (i + 1) u x (by simpa using hu') hx).flat0 (List.all_eq_true.1 hrs u (List.mem_of_getElem? hu'))
theorem step_callX {f : FuncId} {args : Array Operand} {ats : Array TypeId} {us fs : List AV} {n sz : Nat} {e : TypeId} {cs : List D} {rs : List AV} (ho : o.op = .call { callee := .value (.func f), args := args, argTypes := ats }) (hd : o.dst = some t) (ht : t < C.N) {κ : Nat} (hc : σ.clean κ = true)
 (hu : evL σ args.toList = some us) (hn : AV.noPtrs us = true) (hgv : AV.gives us = fs) (hcall : ACalls P f fs (fun r => r = .tup (.own 0 n sz e cs :: rs))) (hn0 : 0 < n) (hcs : flatL cs = true) (hrs : flatA rs = true) : AStep P C o σ ⟨(t, .tup (.pk κ 0 n sz :: rs)) :: σ.tm, (κ, cs.map AV.d) :: σ.bx, σ.tk⟩ := by
 rintro a w ⟨bm, gt, fp, hg⟩ K Q hK
 subst hgv
 have hA := hcall.2 w fp bm.z (args.toList.map a.eval) hg.gdw (fun b o hf => (hg.fpb b o hf).2) hg.zf (hg.evL hu hn)
 have hrun : (execOp a.eval o).run P w = .ok (.enter f (args.toList.map a.eval).toArray) w := by
  simp only [execOp, ho, resolve, Deferred.ofValue, Act.eval, invoke, Sem.run_bind, Sem.run_pure, Result.andThen_ok, hcall.1]
  obtain ⟨l⟩ := args
  simp
 unfold Oper.wp
 rw [hrun, Oper.upon_enter]
 refine hA.mono ?_
 rintro e w' ⟨r, v, rfl, rfl, hb, hr⟩
 simp only []
 rw [hd]
 exact hK _ _ (hg.backX' ht hc hb hn0 hcs hrs hr)
theorem step_idxPk {st e : TypeId} {x y : Operand} {k off n sz : Nat} {ki : IntKind} {j : Int} {d : TypeDesc} {z : Value} {by' : Nat} (i : Nat) (ho : o.op = .indexAddr st x y) (hd : o.dst = some t) (ht : t < C.N) (hst : P.underlying st = some (.slice e)) (hT : TyOk P e d z sz by') (hx : σ.eval x = some (.pk k off n sz)) (hy : σ.eval y = some (.d (.v (.int ki j)))) (hj : j = (i : Int)) (hi : i < n) :
 AStep P C o σ (σ.put t (.ptr k (off + i * sz))) :=
 step_val hd ht fun a w bm gt fp hg => by
  have h := hg.eval hx
  have hyv := (hg.eval hy).val
  subst hj
  generalize hv : a.eval x = v at h
  cases h with
  | @pk _ _ _ _ c h1 h2 =>
    refine ⟨.pointer (some ⟨bm k, off + i * sz, none⟩), ?_, .ptr⟩
    simp only [execOp, ho, hv, hyv, Instr.indexAt, asIntOf]
    simp [go_sem, run_underlying hst, hi, hT.size, add_lit]
theorem step_lenPk {st e : TypeId} {x : Operand} {k off n sz : Nat} (ho : o.op = .call { callee := .builtin .len, args := #[x], argTypes := #[st] }) (hd : o.dst = some t) (ht : t < C.N) (hst : P.underlying st = some (.slice e)) (hx : σ.eval x = some (.pk k off n sz)) : AStep P C o σ (σ.put t (.d (.v (.int .i64 n)))) :=
 step_val hd ht fun a w bm gt fp hg => by
  have h := hg.eval hx
  generalize hv : a.eval x = v at h
  cases h with
  | @pk _ _ _ _ c h1 h2 =>
    refine ⟨_, ?_, .d (.v _)⟩
    simp only [execOp, ho, resolve, invoke, builtin, Builtin.len_, Sem.run_bind, Sem.run_pure, Result.andThen_ok, List.map_toArray, List.map_cons, List.map_nil, hv]
    simp [go_sem, run_underlying hst, goInt]
mutual
def D.fresh : D → Bool
 | .v _ => true
 | .sl t _ _ cs => t && D.freshs cs
 | .cp t ds => t && D.freshs ds
 | .fn _ caps => D.freshs caps
def D.freshs : List D → Bool
 | [] => true
 | d :: r => d.fresh && D.freshs r
end
theorem D.freshs_get : ∀ {l : List D} {i : Nat} {d : D}, D.freshs l = true → l[i]? = some d → d.fresh = true
 | [], _, _, _, h => by simp at h
 | c :: r, 0, d, hc, h => by simp [D.freshs] at hc h; subst h; exact hc.1
 | c :: r, i + 1, d, hc, h => by
   simp only [D.freshs, Bool.and_eq_true] at hc
   exact D.freshs_get hc.2 (by simpa using h)
theorem Rd.fresh {B : Nat} {fp : Nat → Nat → Prop} {w : World} {d : D} {v : Value} (h : Rd B fp w d v) (hf : d.fresh = true) : Rd B (fun b o => fp b o ∧ B ≤ b) w d v := by
 induction h with
 | v x => exact .v x
 | sl us h1 h2 h3 h4 h5 h6 h7 h8 ih =>
   simp only [D.fresh, Bool.and_eq_true] at hf
   refine .sl us h1 h2 h3 h4 h5 h6 (fun i d u hd hu => ih i d u hd hu (D.freshs_get hf.2 hd)) fun i u hu => ?_
   obtain ⟨b, o, e1, e2, e3, e4⟩ := h8 i u hu
   exact ⟨b, o, e1, ⟨e2, e3 hf.1⟩, e3, e4⟩
 | cp us h4 h7 h8 ih =>
   simp only [D.fresh, Bool.and_eq_true] at hf
   refine .cp us h4 (fun i d u hd hu => ih i d u hd hu (D.freshs_get hf.2 hd)) fun i u hu => ?_
   obtain ⟨e2, e3, e4⟩ := h8 i u hu
   exact ⟨⟨e2, e3 hf.1⟩, e3, e4⟩
 | fn us h4 h7 ih =>
   simp only [D.fresh] at hf
   exact .fn us h4 fun i d u hd hu => ih i d u hd hu (D.freshs_get hf hd)
mutual
def AV.fresh : AV → Bool
 | .d x => x.fresh
 | .agg cs => AV.freshA cs
 | .tup cs => AV.freshA cs
 | _ => false
def AV.freshA : List AV → Bool
 | [] => true
 | c :: r => c.fresh && AV.freshA r
end
theorem AV.freshA_get : ∀ {l : List AV} {i : Nat} {x : AV}, AV.freshA l = true → l[i]? = some x → x.fresh = true
 | [], _, _, _, h => by simp at h
 | c :: r, 0, x, hc, h => by simp [AV.freshA] at hc h; subst h; exact hc.1
 | c :: r, i + 1, x, hc, h => by
   simp only [AV.freshA, Bool.and_eq_true] at hc
   exact AV.freshA_get hc.2 (by simpa using h)
theorem RA.fresh {B : Nat} {fp fp' : Nat → Nat → Prop} {w : World} {bm bm' : BM} {gt gt' : Nat → Value} (hp : ∀ b o, fp b o → B ≤ b → fp' b o) {u : AV} {v : Value} (h : RA B fp w bm gt u v) (hf : u.fresh = true) : RA B fp' w bm' gt' u v := by
 induction h with
 | d h => exact .d ((h.fresh hf).keep (Nat.le_refl _) (fun b o hb => hp b o hb.1 hb.2) (fun _ _ _ => rfl))
 | agg vs h4 h7 ih =>
   simp only [AV.fresh] at hf
   exact .agg vs h4 fun i u v hu hv => ih i u v hu hv (AV.freshA_get hf hu)
 | tup vs h4 h7 ih =>
   simp only [AV.fresh] at hf
   exact .tup vs h4 fun i u v hu hv => ih i u v hu hv (AV.freshA_get hf hu)
 | ptr => cases hf
 | own h => cases hf
 | sem h1 h => cases hf
 | cl us vs h3 h4 h6 h7 ih6 ih7 => cases hf
 | pk h1 h2 => cases hf
end
end Go.Proofs.YtblabcopgeobgaaGreatDoor

namespace Go.Proofs.YtblabcopgeobgaaGreatDoor
open Go.RowKit
def loopA (R : KS → KS) : Nat → KS
 | 0 => fun _ _ _ => False
 | n + 1 => fun tm bx tk => loopA R n tm bx tk ∨ R (loopA R n) tm bx tk
theorem loopA_iff {R : KS → KS} {tm : TM} {bx : BX} {tk : TK} : ∀ {n : Nat}, loopA R n tm bx tk ↔ ∃ m, m < n ∧ R (loopA R m) tm bx tk
 | 0 => ⟨fun h => h.elim, fun ⟨m, h, _⟩ => by omega⟩
 | n + 1 => by
   constructor
   ·rintro (h | h)
    ·obtain ⟨m, h1, h2⟩ := loopA_iff.1 h
     exact ⟨m, by omega, h2⟩
    ·exact ⟨n, by omega, h⟩
   ·rintro ⟨m, h1, h2⟩
    by_cases e : m = n
    ·subst e; exact .inr h2
    ·exact .inl (loopA_iff.2 ⟨m, by omega, h2⟩)
theorem NLoop.rounds (n : Nat) {tm : TM} {bx : BX} {tk : TK} {R : KS → KS} (h : R (loopA R n) tm bx tk) : NLoop tm bx tk R := by
 refine ⟨Nat × AS, fun p => R (loopA R p.1) p.2.tm p.2.bx p.2.tk, fun p => p.1, fun p => p.2, fun a b => a = b, (n, ⟨tm, bx, tk⟩), fun a b e => by subst e; exact Ent.refl _, h, Ent.refl _, ?_⟩
 rintro ⟨m, s⟩ hm
 have e : (fun tm' bx' tk' => ∃ a' : Nat × AS, R (loopA R a'.1) a'.2.tm a'.2.bx a'.2.tk ∧ a'.1 < m ∧ (AS.mk tm' bx' tk') = a'.2) = loopA R m := by
  funext tm' bx' tk'
  apply propext
  rw [loopA_iff]
  constructor
  ·rintro ⟨⟨m', s'⟩, h1, h2, h3⟩
   simp only at h1 h2 h3
   subst h3
   exact ⟨m', h2, h1⟩
  ·rintro ⟨m', h1, h2⟩
   exact ⟨(m', ⟨tm', bx', tk'⟩), h2, h1, rfl⟩
 show R (fun tm' bx' tk' => ∃ a' : Nat × AS, R (loopA R a'.1) a'.2.tm a'.2.bx a'.2.tk ∧ a'.1 < m ∧ (AS.mk tm' bx' tk') = a'.2) s.tm s.bx s.tk
 rw [e]
 exact hm
end Go.Proofs.YtblabcopgeobgaaGreatDoor

namespace Go.Proofs.YtblabcopgeobgaaGreatDoor
open Go.RowKit
theorem ty1 : TyOk Tryz.prog 1 (.func #[] #[] false) (.nilFunc) 1 8 := ⟨Tryz.underlying1, by kernel_rfl⟩
theorem ty2 : TyOk Tryz.prog 2 (.int .i64) (.int .i64 0) 1 8 := ⟨Tryz.underlying2, by kernel_rfl⟩
theorem ty3 : TyOk Tryz.prog 3 (.int .i64) (.int .i64 0) 1 8 := ⟨Tryz.underlying3, by kernel_rfl⟩
theorem ty4 : TyOk Tryz.prog 4 (.bool) (.bool false) 1 1 := ⟨Tryz.underlying4, by kernel_rfl⟩
theorem ty5 : TyOk Tryz.prog 5 (.int .u8) (.int .u8 0) 1 1 := ⟨Tryz.underlying5, by kernel_rfl⟩
theorem ty9 : TyOk Tryz.prog 9 (.string) (.string ⟨#[]⟩) 1 16 := ⟨Tryz.underlying9, by kernel_rfl⟩
theorem ty12 : TyOk Tryz.prog 12 (.int .u64) (.int .u64 0) 1 8 := ⟨Tryz.underlying12, by kernel_rfl⟩
theorem ty21 : TyOk Tryz.prog 21 (.int .i32) (.int .i32 0) 1 4 := ⟨Tryz.underlying21, by kernel_rfl⟩
theorem ty22 : TyOk Tryz.prog 22 (.slice 5) (.slice none 0 0) 1 24 := ⟨Tryz.underlying22, by kernel_rfl⟩
theorem ty23 : TyOk Tryz.prog 23 (.func #[] #[4] false) (.nilFunc) 1 8 := ⟨Tryz.underlying23, by kernel_rfl⟩
theorem ty24 : TyOk Tryz.prog 24 (.int .i64) (.int .i64 0) 1 8 := ⟨Tryz.underlying24, by kernel_rfl⟩
theorem ty26 : TyOk Tryz.prog 26 (.func #[22] #[22, 24] false) (.nilFunc) 1 8 := ⟨Tryz.underlying26, by kernel_rfl⟩
theorem ty28 : TyOk Tryz.prog 28 (.struct #[{ name := "Code", type := 24, offset := 0, embedded := false, tag := "", pkgPath := "", byteOffset := 0 }, { name := "Offset", type := 3, offset := 1, embedded := false, tag := "", pkgPath := "", byteOffset := 8 }]) (.agg #[.int .i64 0, .int .i64 0]) 2 16 := ⟨Tryz.underlying28, by kernel_rfl⟩
theorem ty30 : TyOk Tryz.prog 30 (.func #[22] #[22, 28] false) (.nilFunc) 1 8 := ⟨Tryz.underlying30, by kernel_rfl⟩
theorem ty32 : TyOk Tryz.prog 32 (.func #[22] #[22, 4] false) (.nilFunc) 1 8 := ⟨Tryz.underlying32, by kernel_rfl⟩
theorem ty33 : TyOk Tryz.prog 33 (.func #[22, 22] #[4] false) (.nilFunc) 1 8 := ⟨Tryz.underlying33, by kernel_rfl⟩
theorem ty34 : TyOk Tryz.prog 34 (.func #[22] #[22] false) (.nilFunc) 1 8 := ⟨Tryz.underlying34, by kernel_rfl⟩
theorem ty35 : TyOk Tryz.prog 35 (.func #[28, 3] #[4] false) (.nilFunc) 1 8 := ⟨Tryz.underlying35, by kernel_rfl⟩
theorem ty36 : TyOk Tryz.prog 36 (.slice 86) (.slice none 0 0) 1 24 := ⟨Tryz.underlying36, by kernel_rfl⟩
theorem ty37 : TyOk Tryz.prog 37 (.func #[36] #[4] false) (.nilFunc) 1 8 := ⟨Tryz.underlying37, by kernel_rfl⟩
theorem ty38 : TyOk Tryz.prog 38 (.func #[39, 39] #[4] false) (.nilFunc) 1 8 := ⟨Tryz.underlying38, by kernel_rfl⟩
theorem ty39 : TyOk Tryz.prog 39 (.slice 9) (.slice none 0 0) 1 24 := ⟨Tryz.underlying39, by kernel_rfl⟩
theorem ty40 : TyOk Tryz.prog 40 (.func #[36, 9] #[39] false) (.nilFunc) 1 8 := ⟨Tryz.underlying40, by kernel_rfl⟩
theorem ty41 : TyOk Tryz.prog 41 (.func #[36, 9] #[4] false) (.nilFunc) 1 8 := ⟨Tryz.underlying41, by kernel_rfl⟩
theorem ty42 : TyOk Tryz.prog 42 (.slice 56) (.slice none 0 0) 1 24 := ⟨Tryz.underlying42, by kernel_rfl⟩
theorem ty44 : TyOk Tryz.prog 44 (.struct #[{ name := "Permitted", type := 42, offset := 0, embedded := false, tag := "", pkgPath := "", byteOffset := 0 }, { name := "Excluded", type := 42, offset := 1, embedded := false, tag := "", pkgPath := "", byteOffset := 24 }]) (.agg #[.slice none 0 0, .slice none 0 0]) 2 48 := ⟨Tryz.underlying44, by kernel_rfl⟩
theorem ty45 : TyOk Tryz.prog 45 (.func #[44] #[4] false) (.nilFunc) 1 8 := ⟨Tryz.underlying45, by kernel_rfl⟩
theorem ty46 : TyOk Tryz.prog 46 (.func #[9, 9] #[4] false) (.nilFunc) 1 8 := ⟨Tryz.underlying46, by kernel_rfl⟩
theorem ty47 : TyOk Tryz.prog 47 (.func #[44, 9] #[4] false) (.nilFunc) 1 8 := ⟨Tryz.underlying47, by kernel_rfl⟩
theorem ty48 : TyOk Tryz.prog 48 (.func #[44, 9, 9] #[4] false) (.nilFunc) 1 8 := ⟨Tryz.underlying48, by kernel_rfl⟩
theorem ty49 : TyOk Tryz.prog 49 (.func #[9, 9, 9] #[4] false) (.nilFunc) 1 8 := ⟨Tryz.underlying49, by kernel_rfl⟩
theorem ty50 : TyOk Tryz.prog 50 (.array 2 9) (.agg #[.string ⟨#[]⟩, .string ⟨#[]⟩]) 2 32 := ⟨Tryz.underlying50, by kernel_rfl⟩
theorem ty51 : TyOk Tryz.prog 51 (.slice 153) (.slice none 0 0) 1 24 := ⟨Tryz.underlying51, by kernel_rfl⟩
theorem ty52 : TyOk Tryz.prog 52 (.slice 153) (.slice none 0 0) 1 24 := ⟨Tryz.underlying52, by kernel_rfl⟩
theorem ty54 : TyOk Tryz.prog 54 (.struct #[{ name := "Kind", type := 3, offset := 0, embedded := false, tag := "", pkgPath := "", byteOffset := 0 }, { name := "Value", type := 9, offset := 1, embedded := false, tag := "", pkgPath := "", byteOffset := 8 }]) (.agg #[.int .i64 0, .string ⟨#[]⟩]) 2 24 := ⟨Tryz.underlying54, by kernel_rfl⟩
theorem ty56 : TyOk Tryz.prog 56 (.struct #[{ name := "Kind", type := 3, offset := 0, embedded := false, tag := "", pkgPath := "", byteOffset := 0 }, { name := "OID", type := 9, offset := 1, embedded := false, tag := "", pkgPath := "", byteOffset := 8 }, { name := "Text", type := 9, offset := 2, embedded := false, tag := "", pkgPath := "", byteOffset := 24 }, { name := "Bytes", type := 22, offset := 3, embedded := false, tag := "", pkgPath := "", byteOffset := 40 }, { name := "Name", type := 52, offset := 4, embedded := false, tag := "", pkgPath := "", byteOffset := 64 }, { name := "Assigner", type := 54, offset := 5, embedded := false, tag := "", pkgPath := "", byteOffset := 88 }, { name := "Party", type := 54, offset := 7, embedded := false, tag := "", pkgPath := "", byteOffset := 112 }]) (.agg #[.int .i64 0, .string ⟨#[]⟩, .string ⟨#[]⟩, .slice none 0 0, .slice none 0 0, .int .i64 0, .string ⟨#[]⟩, .int .i64 0, .string ⟨#[]⟩]) 9 136 := ⟨Tryz.underlying56, by kernel_rfl⟩
theorem ty57 : TyOk Tryz.prog 57 (.func #[44, 50, 5] #[4] false) (.nilFunc) 1 8 := ⟨Tryz.underlying57, by kernel_rfl⟩
theorem ty58 : TyOk Tryz.prog 58 (.slice 89) (.slice none 0 0) 1 24 := ⟨Tryz.underlying58, by kernel_rfl⟩
theorem ty59 : TyOk Tryz.prog 59 (.int .u16) (.int .u16 0) 1 2 := ⟨Tryz.underlying59, by kernel_rfl⟩
theorem ty60 : TyOk Tryz.prog 60 (.func #[58] #[4] false) (.nilFunc) 1 8 := ⟨Tryz.underlying60, by kernel_rfl⟩
theorem ty61 : TyOk Tryz.prog 61 (.func #[58] #[22, 24] false) (.nilFunc) 1 8 := ⟨Tryz.underlying61, by kernel_rfl⟩
theorem ty63 : TyOk Tryz.prog 63 (.func #[22] #[58, 28] false) (.nilFunc) 1 8 := ⟨Tryz.underlying63, by kernel_rfl⟩
theorem ty64 : TyOk Tryz.prog 64 (.func #[58, 58] #[4] false) (.nilFunc) 1 8 := ⟨Tryz.underlying64, by kernel_rfl⟩
theorem ty65 : TyOk Tryz.prog 65 (.func #[58, 59, 5] #[4] false) (.nilFunc) 1 8 := ⟨Tryz.underlying65, by kernel_rfl⟩
theorem ty67 : TyOk Tryz.prog 67 (.func #[22] #[58, 4] false) (.nilFunc) 1 8 := ⟨Tryz.underlying67, by kernel_rfl⟩
theorem ty68 : TyOk Tryz.prog 68 (.func #[22] #[4] false) (.nilFunc) 1 8 := ⟨Tryz.underlying68, by kernel_rfl⟩
theorem ty69 : TyOk Tryz.prog 69 (.func #[71] #[22, 24] false) (.nilFunc) 1 8 := ⟨Tryz.underlying69, by kernel_rfl⟩
theorem ty71 : TyOk Tryz.prog 71 (.struct #[{ name := "HasID", type := 4, offset := 0, embedded := false, tag := "", pkgPath := "", byteOffset := 0 }, { name := "ID", type := 22, offset := 1, embedded := false, tag := "", pkgPath := "", byteOffset := 8 }, { name := "Issuer", type := 42, offset := 2, embedded := false, tag := "", pkgPath := "", byteOffset := 32 }, { name := "Serial", type := 22, offset := 3, embedded := false, tag := "", pkgPath := "", byteOffset := 56 }]) (.agg #[.bool false, .slice none 0 0, .slice none 0 0, .slice none 0 0]) 4 80 := ⟨Tryz.underlying71, by kernel_rfl⟩
theorem ty72 : TyOk Tryz.prog 72 (.func #[3, 4, 3, 87] #[22, 24] true) (.nilFunc) 1 8 := ⟨Tryz.underlying72, by kernel_rfl⟩
theorem ty74 : TyOk Tryz.prog 74 (.struct #[{ name := "Class", type := 3, offset := 0, embedded := false, tag := "", pkgPath := "", byteOffset := 0 }, { name := "Number", type := 3, offset := 1, embedded := false, tag := "", pkgPath := "", byteOffset := 8 }, { name := "Constructed", type := 4, offset := 2, embedded := false, tag := "", pkgPath := "", byteOffset := 16 }, { name := "Start", type := 3, offset := 3, embedded := false, tag := "", pkgPath := "", byteOffset := 24 }, { name := "Body", type := 3, offset := 4, embedded := false, tag := "", pkgPath := "", byteOffset := 32 }, { name := "End", type := 3, offset := 5, embedded := false, tag := "", pkgPath := "", byteOffset := 40 }]) (.agg #[.int .i64 0, .int .i64 0, .bool false, .int .i64 0, .int .i64 0, .int .i64 0]) 6 48 := ⟨Tryz.underlying74, by kernel_rfl⟩
theorem ty76 : TyOk Tryz.prog 76 (.func #[22] #[74, 28] false) (.nilFunc) 1 8 := ⟨Tryz.underlying76, by kernel_rfl⟩
theorem ty77 : TyOk Tryz.prog 77 (.func #[74, 3, 4, 3] #[4] false) (.nilFunc) 1 8 := ⟨Tryz.underlying77, by kernel_rfl⟩
theorem ty78 : TyOk Tryz.prog 78 (.slice 80) (.slice none 0 0) 1 24 := ⟨Tryz.underlying78, by kernel_rfl⟩
theorem ty80 : TyOk Tryz.prog 80 (.struct #[{ name := "Class", type := 3, offset := 0, embedded := false, tag := "", pkgPath := "", byteOffset := 0 }, { name := "Number", type := 3, offset := 1, embedded := false, tag := "", pkgPath := "", byteOffset := 8 }, { name := "Constructed", type := 4, offset := 2, embedded := false, tag := "", pkgPath := "", byteOffset := 16 }, { name := "Content", type := 22, offset := 3, embedded := false, tag := "", pkgPath := "", byteOffset := 24 }, { name := "Kids", type := 78, offset := 4, embedded := false, tag := "", pkgPath := "", byteOffset := 48 }]) (.agg #[.int .i64 0, .int .i64 0, .bool false, .slice none 0 0, .slice none 0 0]) 5 72 := ⟨Tryz.underlying80, by kernel_rfl⟩
theorem ty82 : TyOk Tryz.prog 82 (.func #[22] #[80, 4] false) (.nilFunc) 1 8 := ⟨Tryz.underlying82, by kernel_rfl⟩
theorem ty83 : TyOk Tryz.prog 83 (.func #[5, 22] #[22] false) (.nilFunc) 1 8 := ⟨Tryz.underlying83, by kernel_rfl⟩
theorem ty84 : TyOk Tryz.prog 84 (.func #[36] #[22, 24] false) (.nilFunc) 1 8 := ⟨Tryz.underlying84, by kernel_rfl⟩
theorem ty86 : TyOk Tryz.prog 86 (.struct #[{ name := "Method", type := 9, offset := 0, embedded := false, tag := "", pkgPath := "", byteOffset := 0 }, { name := "Location", type := 56, offset := 1, embedded := false, tag := "", pkgPath := "", byteOffset := 16 }]) (.agg #[.string ⟨#[]⟩, .int .i64 0, .string ⟨#[]⟩, .string ⟨#[]⟩, .slice none 0 0, .slice none 0 0, .int .i64 0, .string ⟨#[]⟩, .int .i64 0, .string ⟨#[]⟩]) 10 152 := ⟨Tryz.underlying86, by kernel_rfl⟩
theorem ty87 : TyOk Tryz.prog 87 (.slice 22) (.slice none 0 0) 1 24 := ⟨Tryz.underlying87, by kernel_rfl⟩
theorem ty89 : TyOk Tryz.prog 89 (.struct #[{ name := "OID", type := 9, offset := 0, embedded := false, tag := "", pkgPath := "", byteOffset := 0 }, { name := "Values", type := 87, offset := 1, embedded := false, tag := "", pkgPath := "", byteOffset := 16 }]) (.agg #[.string ⟨#[]⟩, .slice none 0 0]) 2 40 := ⟨Tryz.underlying89, by kernel_rfl⟩
theorem ty90 : TyOk Tryz.prog 90 (.func #[56] #[4] false) (.nilFunc) 1 8 := ⟨Tryz.underlying90, by kernel_rfl⟩
theorem ty91 : TyOk Tryz.prog 91 (.func #[44] #[22, 24] false) (.nilFunc) 1 8 := ⟨Tryz.underlying91, by kernel_rfl⟩
theorem ty92 : TyOk Tryz.prog 92 (.func #[42] #[4] false) (.nilFunc) 1 8 := ⟨Tryz.underlying92, by kernel_rfl⟩
theorem ty93 : TyOk Tryz.prog 93 (.func #[9] #[9] false) (.nilFunc) 1 8 := ⟨Tryz.underlying93, by kernel_rfl⟩
theorem ty94 : TyOk Tryz.prog 94 (.func #[9, 22] #[89, 4] false) (.nilFunc) 1 8 := ⟨Tryz.underlying94, by kernel_rfl⟩
theorem ty95 : TyOk Tryz.prog 95 (.func #[89] #[9, 22, 4] false) (.nilFunc) 1 8 := ⟨Tryz.underlying95, by kernel_rfl⟩
theorem ty97 : TyOk Tryz.prog 97 (.struct #[{ name := "make", type := 94, offset := 0, embedded := false, tag := "", pkgPath := "cretula/access", byteOffset := 0 }, { name := "split", type := 95, offset := 1, embedded := false, tag := "", pkgPath := "cretula/access", byteOffset := 8 }]) (.agg #[.nilFunc, .nilFunc]) 2 16 := ⟨Tryz.underlying97, by kernel_rfl⟩
theorem ty98 : TyOk Tryz.prog 98 (.func #[] #[97] false) (.nilFunc) 1 8 := ⟨Tryz.underlying98, by kernel_rfl⟩
theorem ty99 : TyOk Tryz.prog 99 (.func #[87, 87] #[4] false) (.nilFunc) 1 8 := ⟨Tryz.underlying99, by kernel_rfl⟩
theorem ty100 : TyOk Tryz.prog 100 (.func #[5, 87] #[22] false) (.nilFunc) 1 8 := ⟨Tryz.underlying100, by kernel_rfl⟩
theorem ty101 : TyOk Tryz.prog 101 (.func #[9] #[22] false) (.nilFunc) 1 8 := ⟨Tryz.underlying101, by kernel_rfl⟩
theorem ty102 : TyOk Tryz.prog 102 (.func #[9] #[4] false) (.nilFunc) 1 8 := ⟨Tryz.underlying102, by kernel_rfl⟩
theorem ty103 : TyOk Tryz.prog 103 (.func #[87] #[4] false) (.nilFunc) 1 8 := ⟨Tryz.underlying103, by kernel_rfl⟩
theorem ty104 : TyOk Tryz.prog 104 (.func #[80] #[58] false) (.nilFunc) 1 8 := ⟨Tryz.underlying104, by kernel_rfl⟩
theorem ty105 : TyOk Tryz.prog 105 (.func #[71] #[4] false) (.nilFunc) 1 8 := ⟨Tryz.underlying105, by kernel_rfl⟩
theorem ty106 : TyOk Tryz.prog 106 (.func #[4, 3, 22] #[] false) (.nilFunc) 1 8 := ⟨Tryz.underlying106, by kernel_rfl⟩
theorem ty107 : TyOk Tryz.prog 107 (.func #[42] #[22, 24] false) (.nilFunc) 1 8 := ⟨Tryz.underlying107, by kernel_rfl⟩
theorem ty108 : TyOk Tryz.prog 108 (.func #[87] #[22, 24] true) (.nilFunc) 1 8 := ⟨Tryz.underlying108, by kernel_rfl⟩
theorem ty109 : TyOk Tryz.prog 109 (.func #[3, 4, 3, 22] #[22, 24] false) (.nilFunc) 1 8 := ⟨Tryz.underlying109, by kernel_rfl⟩
theorem ty110 : TyOk Tryz.prog 110 (.func #[87] #[22] true) (.nilFunc) 1 8 := ⟨Tryz.underlying110, by kernel_rfl⟩
theorem ty111 : TyOk Tryz.prog 111 (.func #[22, 3, 3] #[74, 28] false) (.nilFunc) 1 8 := ⟨Tryz.underlying111, by kernel_rfl⟩
theorem ty113 : TyOk Tryz.prog 113 (.func #[22, 3] #[80, 28] false) (.nilFunc) 1 8 := ⟨Tryz.underlying113, by kernel_rfl⟩
theorem ty114 : TyOk Tryz.prog 114 (.func #[3] #[22, 24] false) (.nilFunc) 1 8 := ⟨Tryz.underlying114, by kernel_rfl⟩
theorem ty115 : TyOk Tryz.prog 115 (.func #[9, 22] #[86, 4] false) (.nilFunc) 1 8 := ⟨Tryz.underlying115, by kernel_rfl⟩
theorem ty116 : TyOk Tryz.prog 116 (.func #[86] #[9, 22, 4] false) (.nilFunc) 1 8 := ⟨Tryz.underlying116, by kernel_rfl⟩
theorem ty118 : TyOk Tryz.prog 118 (.struct #[{ name := "make", type := 115, offset := 0, embedded := false, tag := "", pkgPath := "cretula/access", byteOffset := 0 }, { name := "split", type := 116, offset := 1, embedded := false, tag := "", pkgPath := "cretula/access", byteOffset := 8 }]) (.agg #[.nilFunc, .nilFunc]) 2 16 := ⟨Tryz.underlying118, by kernel_rfl⟩
theorem ty119 : TyOk Tryz.prog 119 (.func #[] #[118] false) (.nilFunc) 1 8 := ⟨Tryz.underlying119, by kernel_rfl⟩
theorem ty120 : TyOk Tryz.prog 120 (.func #[52] #[4] false) (.nilFunc) 1 8 := ⟨Tryz.underlying120, by kernel_rfl⟩
theorem ty121 : TyOk Tryz.prog 121 (.slice 42) (.slice none 0 0) 1 24 := ⟨Tryz.underlying121, by kernel_rfl⟩
theorem ty122 : TyOk Tryz.prog 122 (.func #[56] #[22, 24] false) (.nilFunc) 1 8 := ⟨Tryz.underlying122, by kernel_rfl⟩
theorem ty123 : TyOk Tryz.prog 123 (.slice 74) (.slice none 0 0) 1 24 := ⟨Tryz.underlying123, by kernel_rfl⟩
theorem ty125 : TyOk Tryz.prog 125 (.func #[22, 3, 3] #[123, 28] false) (.nilFunc) 1 8 := ⟨Tryz.underlying125, by kernel_rfl⟩
theorem ty127 : TyOk Tryz.prog 127 (.func #[9] #[22, 24] false) (.nilFunc) 1 8 := ⟨Tryz.underlying127, by kernel_rfl⟩
theorem ty129 : TyOk Tryz.prog 129 (.func #[22] #[89, 4] false) (.nilFunc) 1 8 := ⟨Tryz.underlying129, by kernel_rfl⟩
theorem ty130 : TyOk Tryz.prog 130 (.slice 158) (.slice none 0 0) 1 24 := ⟨Tryz.underlying130, by kernel_rfl⟩
theorem ty132 : TyOk Tryz.prog 132 (.func #[9] #[130, 24] false) (.nilFunc) 1 8 := ⟨Tryz.underlying132, by kernel_rfl⟩
theorem ty133 : TyOk Tryz.prog 133 (.func #[22, 22] #[3] false) (.nilFunc) 1 8 := ⟨Tryz.underlying133, by kernel_rfl⟩
theorem ty134 : TyOk Tryz.prog 134 (.func #[22] #[80, 28] false) (.nilFunc) 1 8 := ⟨Tryz.underlying134, by kernel_rfl⟩
theorem ty135 : TyOk Tryz.prog 135 (.func #[80] #[9] false) (.nilFunc) 1 8 := ⟨Tryz.underlying135, by kernel_rfl⟩
theorem ty136 : TyOk Tryz.prog 136 (.func #[80, 3] #[80] false) (.nilFunc) 1 8 := ⟨Tryz.underlying136, by kernel_rfl⟩
theorem ty137 : TyOk Tryz.prog 137 (.func #[80] #[22] false) (.nilFunc) 1 8 := ⟨Tryz.underlying137, by kernel_rfl⟩
theorem ty139 : TyOk Tryz.prog 139 (.func #[3, 4, 3] #[5, 24] false) (.nilFunc) 1 8 := ⟨Tryz.underlying139, by kernel_rfl⟩
theorem ty140 : TyOk Tryz.prog 140 (.func #[22, 3] #[22] false) (.nilFunc) 1 8 := ⟨Tryz.underlying140, by kernel_rfl⟩
theorem ty142 : TyOk Tryz.prog 142 (.struct #[{ name := "Class", type := 3, offset := 0, embedded := false, tag := "", pkgPath := "", byteOffset := 0 }, { name := "Number", type := 3, offset := 1, embedded := false, tag := "", pkgPath := "", byteOffset := 8 }, { name := "Constructed", type := 4, offset := 2, embedded := false, tag := "", pkgPath := "", byteOffset := 16 }, { name := "Length", type := 3, offset := 3, embedded := false, tag := "", pkgPath := "", byteOffset := 24 }, { name := "Size", type := 3, offset := 4, embedded := false, tag := "", pkgPath := "", byteOffset := 32 }]) (.agg #[.int .i64 0, .int .i64 0, .bool false, .int .i64 0, .int .i64 0]) 5 40 := ⟨Tryz.underlying142, by kernel_rfl⟩
theorem ty144 : TyOk Tryz.prog 144 (.func #[22] #[142, 28] false) (.nilFunc) 1 8 := ⟨Tryz.underlying144, by kernel_rfl⟩
theorem ty146 : TyOk Tryz.prog 146 (.func #[22, 3] #[80, 3, 28] false) (.nilFunc) 1 8 := ⟨Tryz.underlying146, by kernel_rfl⟩
theorem ty147 : TyOk Tryz.prog 147 (.func #[148] #[22] false) (.nilFunc) 1 8 := ⟨Tryz.underlying147, by kernel_rfl⟩
theorem ty148 : TyOk Tryz.prog 148 (.int .u64) (.int .u64 0) 1 8 := ⟨Tryz.underlying148, by kernel_rfl⟩
theorem ty150 : TyOk Tryz.prog 150 (.func #[22] #[56, 28] false) (.nilFunc) 1 8 := ⟨Tryz.underlying150, by kernel_rfl⟩
theorem ty151 : TyOk Tryz.prog 151 (.func #[153] #[4] false) (.nilFunc) 1 8 := ⟨Tryz.underlying151, by kernel_rfl⟩
theorem ty152 : TyOk Tryz.prog 152 (.slice 155) (.slice none 0 0) 1 24 := ⟨Tryz.underlying152, by kernel_rfl⟩
theorem ty153 : TyOk Tryz.prog 153 (.slice 155) (.slice none 0 0) 1 24 := ⟨Tryz.underlying153, by kernel_rfl⟩
theorem ty155 : TyOk Tryz.prog 155 (.struct #[{ name := "OID", type := 9, offset := 0, embedded := false, tag := "", pkgPath := "", byteOffset := 0 }, { name := "Value", type := 22, offset := 1, embedded := false, tag := "", pkgPath := "", byteOffset := 16 }]) (.agg #[.string ⟨#[]⟩, .slice none 0 0]) 2 40 := ⟨Tryz.underlying155, by kernel_rfl⟩
theorem ty156 : TyOk Tryz.prog 156 (.func #[3] #[4] false) (.nilFunc) 1 8 := ⟨Tryz.underlying156, by kernel_rfl⟩
theorem ty157 : TyOk Tryz.prog 157 (.func #[87, 68] #[4] false) (.nilFunc) 1 8 := ⟨Tryz.underlying157, by kernel_rfl⟩
theorem ty158 : TyOk Tryz.prog 158 (.int .u32) (.int .u32 0) 1 4 := ⟨Tryz.underlying158, by kernel_rfl⟩
theorem ty159 : TyOk Tryz.prog 159 (.int .u64) (.int .u64 0) 1 8 := ⟨Tryz.underlying159, by kernel_rfl⟩
theorem ty160 : TyOk Tryz.prog 160 (.func #[22] #[] false) (.nilFunc) 1 8 := ⟨Tryz.underlying160, by kernel_rfl⟩
theorem ty161 : TyOk Tryz.prog 161 (.func #[158] #[] false) (.nilFunc) 1 8 := ⟨Tryz.underlying161, by kernel_rfl⟩
theorem ty163 : TyOk Tryz.prog 163 (.func #[22] #[9, 24] false) (.nilFunc) 1 8 := ⟨Tryz.underlying163, by kernel_rfl⟩
theorem ty164 : TyOk Tryz.prog 164 (.func #[148, 4] #[22] false) (.nilFunc) 1 8 := ⟨Tryz.underlying164, by kernel_rfl⟩
theorem ty166 : TyOk Tryz.prog 166 (.func #[9] #[148, 4] false) (.nilFunc) 1 8 := ⟨Tryz.underlying166, by kernel_rfl⟩
theorem ty167 : TyOk Tryz.prog 167 (.func #[130] #[4] false) (.nilFunc) 1 8 := ⟨Tryz.underlying167, by kernel_rfl⟩
theorem ty169 : TyOk Tryz.prog 169 (.func #[5] #[3, 4, 3, 24] false) (.nilFunc) 1 8 := ⟨Tryz.underlying169, by kernel_rfl⟩
theorem ty171 : TyOk Tryz.prog 171 (.func #[22] #[3, 3, 28] false) (.nilFunc) 1 8 := ⟨Tryz.underlying171, by kernel_rfl⟩
theorem ty173 : TyOk Tryz.prog 173 (.func #[22] #[142, 22, 22, 28] false) (.nilFunc) 1 8 := ⟨Tryz.underlying173, by kernel_rfl⟩
theorem ty174 : TyOk Tryz.prog 174 (.func #[180] #[56, 4] false) (.nilFunc) 1 8 := ⟨Tryz.underlying174, by kernel_rfl⟩
theorem ty176 : TyOk Tryz.prog 176 (.map 3 174) (.map none) 1 8 := ⟨Tryz.underlying176, by kernel_rfl⟩
theorem ty177 : TyOk Tryz.prog 177 (.func #[] #[176] false) (.nilFunc) 1 8 := ⟨Tryz.underlying177, by kernel_rfl⟩
theorem ty180 : TyOk Tryz.prog 180 (.struct #[{ name := "kind", type := 3, offset := 0, embedded := false, tag := "", pkgPath := "cretula/general", byteOffset := 0 }, { name := "content", type := 22, offset := 1, embedded := false, tag := "", pkgPath := "cretula/general", byteOffset := 8 }]) (.agg #[.int .i64 0, .slice none 0 0]) 2 32 := ⟨Tryz.underlying180, by kernel_rfl⟩
theorem ty181 : TyOk Tryz.prog 181 (.func #[155] #[4] false) (.nilFunc) 1 8 := ⟨Tryz.underlying181, by kernel_rfl⟩
theorem ty182 : TyOk Tryz.prog 182 (.func #[3, 22] #[22, 24] false) (.nilFunc) 1 8 := ⟨Tryz.underlying182, by kernel_rfl⟩
theorem ty183 : TyOk Tryz.prog 183 (.func #[54] #[22, 24] false) (.nilFunc) 1 8 := ⟨Tryz.underlying183, by kernel_rfl⟩
theorem ty184 : TyOk Tryz.prog 184 (.func #[52] #[22, 24] false) (.nilFunc) 1 8 := ⟨Tryz.underlying184, by kernel_rfl⟩
theorem ty185 : TyOk Tryz.prog 185 (.slice 54) (.slice none 0 0) 1 24 := ⟨Tryz.underlying185, by kernel_rfl⟩
theorem ty186 : TyOk Tryz.prog 186 (.func #[87, 68] #[3] false) (.nilFunc) 1 8 := ⟨Tryz.underlying186, by kernel_rfl⟩
theorem ty187 : TyOk Tryz.prog 187 (.func #[9, 9] #[39] false) (.nilFunc) 1 8 := ⟨Tryz.underlying187, by kernel_rfl⟩
theorem ty191 : TyOk Tryz.prog 191 (.func #[9, 3, 3] #[148, 189] false) (.nilFunc) 1 8 := ⟨Tryz.underlying191, by kernel_rfl⟩
theorem ty192 : TyOk Tryz.prog 192 (.func #[148, 3] #[9] false) (.nilFunc) 1 8 := ⟨Tryz.underlying192, by kernel_rfl⟩
theorem ty193 : TyOk Tryz.prog 193 (.slice 148) (.slice none 0 0) 1 24 := ⟨Tryz.underlying193, by kernel_rfl⟩
theorem ty194 : TyOk Tryz.prog 194 (.func #[130] #[9, 24] false) (.nilFunc) 1 8 := ⟨Tryz.underlying194, by kernel_rfl⟩
theorem ty195 : TyOk Tryz.prog 195 (.func #[148] #[9] false) (.nilFunc) 1 8 := ⟨Tryz.underlying195, by kernel_rfl⟩
theorem ty196 : TyOk Tryz.prog 196 (.func #[24, 3] #[3, 3, 28] false) (.nilFunc) 1 8 := ⟨Tryz.underlying196, by kernel_rfl⟩
theorem ty197 : TyOk Tryz.prog 197 (.func #[] #[56, 4] false) (.nilFunc) 1 8 := ⟨Tryz.underlying197, by kernel_rfl⟩
theorem ty198 : TyOk Tryz.prog 198 (.func #[54] #[4] false) (.nilFunc) 1 8 := ⟨Tryz.underlying198, by kernel_rfl⟩
theorem ty199 : TyOk Tryz.prog 199 (.func #[21] #[4] false) (.nilFunc) 1 8 := ⟨Tryz.underlying199, by kernel_rfl⟩
theorem ty201 : TyOk Tryz.prog 201 (.struct #[{ name := "has", type := 199, offset := 0, embedded := false, tag := "", pkgPath := "cretula/charset", byteOffset := 0 }, { name := "width", type := 3, offset := 1, embedded := false, tag := "", pkgPath := "cretula/charset", byteOffset := 8 }]) (.agg #[.nilFunc, .int .i64 0]) 2 16 := ⟨Tryz.underlying201, by kernel_rfl⟩
theorem ty202 : TyOk Tryz.prog 202 (.map 3 201) (.map none) 1 8 := ⟨Tryz.underlying202, by kernel_rfl⟩
theorem ty203 : TyOk Tryz.prog 203 (.func #[] #[202] false) (.nilFunc) 1 8 := ⟨Tryz.underlying203, by kernel_rfl⟩
theorem ty204 : TyOk Tryz.prog 204 (.func #[3, 114] #[22, 24] false) (.nilFunc) 1 8 := ⟨Tryz.underlying204, by kernel_rfl⟩
theorem ty206 : TyOk Tryz.prog 206 (.struct #[{ name := "number", type := 3, offset := 0, embedded := false, tag := "", pkgPath := "cretula/dn", byteOffset := 0 }, { name := "sorted", type := 4, offset := 1, embedded := false, tag := "", pkgPath := "cretula/dn", byteOffset := 8 }]) (.agg #[.int .i64 0, .bool false]) 2 16 := ⟨Tryz.underlying206, by kernel_rfl⟩
theorem ty207 : TyOk Tryz.prog 207 (.func #[153] #[22, 24] false) (.nilFunc) 1 8 := ⟨Tryz.underlying207, by kernel_rfl⟩
theorem ty208 : TyOk Tryz.prog 208 (.func #[22, 22, 209] #[3] false) (.nilFunc) 1 8 := ⟨Tryz.underlying208, by kernel_rfl⟩
theorem ty209 : TyOk Tryz.prog 209 (.func #[5, 5] #[3] false) (.nilFunc) 1 8 := ⟨Tryz.underlying209, by kernel_rfl⟩
theorem ty210 : TyOk Tryz.prog 210 (.slice 212) (.slice none 0 0) 1 24 := ⟨Tryz.underlying210, by kernel_rfl⟩
theorem ty212 : TyOk Tryz.prog 212 (.struct #[{ name := "at", type := 3, offset := 0, embedded := false, tag := "", pkgPath := "cretula/tree", byteOffset := 0 }, { name := "end", type := 3, offset := 1, embedded := false, tag := "", pkgPath := "cretula/tree", byteOffset := 8 }, { name := "node", type := 80, offset := 2, embedded := false, tag := "", pkgPath := "cretula/tree", byteOffset := 16 }, { name := "kids", type := 210, offset := 7, embedded := false, tag := "", pkgPath := "cretula/tree", byteOffset := 88 }]) (.agg #[.int .i64 0, .int .i64 0, .int .i64 0, .int .i64 0, .bool false, .slice none 0 0, .slice none 0 0, .slice none 0 0]) 8 112 := ⟨Tryz.underlying212, by kernel_rfl⟩
theorem ty214 : TyOk Tryz.prog 214 (.func #[22] #[212, 28] false) (.nilFunc) 1 8 := ⟨Tryz.underlying214, by kernel_rfl⟩
theorem ty215 : TyOk Tryz.prog 215 (.func #[9, 9, 3, 3] #[39] false) (.nilFunc) 1 8 := ⟨Tryz.underlying215, by kernel_rfl⟩
theorem ty216 : TyOk Tryz.prog 216 (.func #[9, 9, 3, 3, 189] #[189] false) (.nilFunc) 1 8 := ⟨Tryz.underlying216, by kernel_rfl⟩
theorem ty217 : TyOk Tryz.prog 217 (.func #[39, 9] #[9] false) (.nilFunc) 1 8 := ⟨Tryz.underlying217, by kernel_rfl⟩
theorem ty218 : TyOk Tryz.prog 218 (.func #[22] #[87] false) (.nilFunc) 1 8 := ⟨Tryz.underlying218, by kernel_rfl⟩
theorem ty219 : TyOk Tryz.prog 219 (.func #[22, 3] #[22, 4] false) (.nilFunc) 1 8 := ⟨Tryz.underlying219, by kernel_rfl⟩
theorem ty221 : TyOk Tryz.prog 221 (.func #[3, 22] #[54, 24] false) (.nilFunc) 1 8 := ⟨Tryz.underlying221, by kernel_rfl⟩
theorem ty223 : TyOk Tryz.prog 223 (.func #[22] #[52, 28] false) (.nilFunc) 1 8 := ⟨Tryz.underlying223, by kernel_rfl⟩
theorem ty225 : TyOk Tryz.prog 225 (.func #[22] #[54, 4] false) (.nilFunc) 1 8 := ⟨Tryz.underlying225, by kernel_rfl⟩
theorem ty227 : TyOk Tryz.prog 227 (.func #[9, 21] #[4] false) (.nilFunc) 1 8 := ⟨Tryz.underlying227, by kernel_rfl⟩
theorem ty228 : TyOk Tryz.prog 228 (.func #[21, 21] #[199] false) (.nilFunc) 1 8 := ⟨Tryz.underlying228, by kernel_rfl⟩
theorem ty229 : TyOk Tryz.prog 229 (.func #[155] #[22, 24] false) (.nilFunc) 1 8 := ⟨Tryz.underlying229, by kernel_rfl⟩
theorem ty230 : TyOk Tryz.prog 230 (.func #[5] #[4] false) (.nilFunc) 1 8 := ⟨Tryz.underlying230, by kernel_rfl⟩
theorem ty231 : TyOk Tryz.prog 231 (.func #[22, 3, 3, 3] #[212, 28] false) (.nilFunc) 1 8 := ⟨Tryz.underlying231, by kernel_rfl⟩
theorem ty232 : TyOk Tryz.prog 232 (.func #[9, 3] #[39] false) (.nilFunc) 1 8 := ⟨Tryz.underlying232, by kernel_rfl⟩
theorem ty233 : TyOk Tryz.prog 233 (.func #[9, 9] #[3] false) (.nilFunc) 1 8 := ⟨Tryz.underlying233, by kernel_rfl⟩
theorem ty234 : TyOk Tryz.prog 234 (.int .i64) (.int .i64 0) 1 8 := ⟨Tryz.underlying234, by kernel_rfl⟩
theorem ty235 : TyOk Tryz.prog 235 (.func #[5] #[5] false) (.nilFunc) 1 8 := ⟨Tryz.underlying235, by kernel_rfl⟩
theorem ty236 : TyOk Tryz.prog 236 (.pointer 271) (.pointer none) 1 8 := ⟨Tryz.underlying236, by kernel_rfl⟩
theorem ty237 : TyOk Tryz.prog 237 (.func #[9, 9] #[236] false) (.nilFunc) 1 8 := ⟨Tryz.underlying237, by kernel_rfl⟩
theorem ty238 : TyOk Tryz.prog 238 (.func #[9, 9, 3] #[236] false) (.nilFunc) 1 8 := ⟨Tryz.underlying238, by kernel_rfl⟩
theorem ty239 : TyOk Tryz.prog 239 (.func #[3] #[9] false) (.nilFunc) 1 8 := ⟨Tryz.underlying239, by kernel_rfl⟩
theorem ty240 : TyOk Tryz.prog 240 (.array 24 5) (.agg #[.int .u8 0, .int .u8 0, .int .u8 0, .int .u8 0, .int .u8 0, .int .u8 0, .int .u8 0, .int .u8 0, .int .u8 0, .int .u8 0, .int .u8 0, .int .u8 0, .int .u8 0, .int .u8 0, .int .u8 0, .int .u8 0, .int .u8 0, .int .u8 0, .int .u8 0, .int .u8 0, .int .u8 0, .int .u8 0, .int .u8 0, .int .u8 0]) 24 24 := ⟨Tryz.underlying240, by kernel_rfl⟩
theorem ty241 : TyOk Tryz.prog 241 (.func #[148] #[3] false) (.nilFunc) 1 8 := ⟨Tryz.underlying241, by kernel_rfl⟩
theorem ty242 : TyOk Tryz.prog 242 (.func #[22, 148] #[] false) (.nilFunc) 1 8 := ⟨Tryz.underlying242, by kernel_rfl⟩
theorem ty244 : TyOk Tryz.prog 244 (.func #[22, 148, 3, 4, 4] #[22, 9] false) (.nilFunc) 1 8 := ⟨Tryz.underlying244, by kernel_rfl⟩
theorem ty245 : TyOk Tryz.prog 245 (.pointer 247) (.pointer none) 1 8 := ⟨Tryz.underlying245, by kernel_rfl⟩
theorem ty247 : TyOk Tryz.prog 247 (.struct #[{ name := "addr", type := 245, offset := 0, embedded := false, tag := "", pkgPath := "strings", byteOffset := 0 }, { name := "buf", type := 22, offset := 1, embedded := false, tag := "", pkgPath := "strings", byteOffset := 8 }]) (.agg #[.pointer none, .slice none 0 0]) 2 32 := ⟨Tryz.underlying247, by kernel_rfl⟩
theorem ty248 : TyOk Tryz.prog 248 (.func #[3] #[] false) (.nilFunc) 1 8 := ⟨Tryz.underlying248, by kernel_rfl⟩
theorem ty250 : TyOk Tryz.prog 250 (.func #[9] #[3, 189] false) (.nilFunc) 1 8 := ⟨Tryz.underlying250, by kernel_rfl⟩
theorem ty251 : TyOk Tryz.prog 251 (.func #[] #[9] false) (.nilFunc) 1 8 := ⟨Tryz.underlying251, by kernel_rfl⟩
theorem ty252 : TyOk Tryz.prog 252 (.func #[22] #[148, 4] false) (.nilFunc) 1 8 := ⟨Tryz.underlying252, by kernel_rfl⟩
theorem ty253 : TyOk Tryz.prog 253 (.func #[68] #[] false) (.nilFunc) 1 8 := ⟨Tryz.underlying253, by kernel_rfl⟩
theorem ty254 : TyOk Tryz.prog 254 (.func #[68] #[] false) (.nilFunc) 1 8 := ⟨Tryz.underlying254, by kernel_rfl⟩
theorem ty255 : TyOk Tryz.prog 255 (.func #[22, 3] #[254] false) (.nilFunc) 1 8 := ⟨Tryz.underlying255, by kernel_rfl⟩
theorem ty256 : TyOk Tryz.prog 256 (.func #[21] #[3, 189] false) (.nilFunc) 1 8 := ⟨Tryz.underlying256, by kernel_rfl⟩
theorem ty258 : TyOk Tryz.prog 258 (.func #[22] #[153, 28] false) (.nilFunc) 1 8 := ⟨Tryz.underlying258, by kernel_rfl⟩
theorem ty259 : TyOk Tryz.prog 259 (.func #[9] #[12] false) (.nilFunc) 1 8 := ⟨Tryz.underlying259, by kernel_rfl⟩
theorem ty260 : TyOk Tryz.prog 260 (.array 256 5) (.agg #[.int .u8 0, .int .u8 0, .int .u8 0, .int .u8 0, .int .u8 0, .int .u8 0, .int .u8 0, .int .u8 0, .int .u8 0, .int .u8 0, .int .u8 0, .int .u8 0, .int .u8 0, .int .u8 0, .int .u8 0, .int .u8 0, .int .u8 0, .int .u8 0, .int .u8 0, .int .u8 0, .int .u8 0, .int .u8 0, .int .u8 0, .int .u8 0, .int .u8 0, .int .u8 0, .int .u8 0, .int .u8 0, .int .u8 0, .int .u8 0, .int .u8 0, .int .u8 0, .int .u8 0, .int .u8 0, .int .u8 0, .int .u8 0, .int .u8 0, .int .u8 0, .int .u8 0, .int .u8 0, .int .u8 0, .int .u8 0, .int .u8 0, .int .u8 0, .int .u8 0, .int .u8 0, .int .u8 0, .int .u8 0, .int .u8 0, .int .u8 0, .int .u8 0, .int .u8 0, .int .u8 0, .int .u8 0, .int .u8 0, .int .u8 0, .int .u8 0, .int .u8 0, .int .u8 0, .int .u8 0, .int .u8 0, .int .u8 0, .int .u8 0, .int .u8 0, .int .u8 0, .int .u8 0, .int .u8 0, .int .u8 0, .int .u8 0, .int .u8 0, .int .u8 0, .int .u8 0, .int .u8 0, .int .u8 0, .int .u8 0, .int .u8 0, .int .u8 0, .int .u8 0, .int .u8 0, .int .u8 0, .int .u8 0, .int .u8 0, .int .u8 0, .int .u8 0, .int .u8 0, .int .u8 0, .int .u8 0, .int .u8 0, .int .u8 0, .int .u8 0, .int .u8 0, .int .u8 0, .int .u8 0, .int .u8 0, .int .u8 0, .int .u8 0, .int .u8 0, .int .u8 0, .int .u8 0, .int .u8 0, .int .u8 0, .int .u8 0, .int .u8 0, .int .u8 0, .int .u8 0, .int .u8 0, .int .u8 0, .int .u8 0, .int .u8 0, .int .u8 0, .int .u8 0, .int .u8 0, .int .u8 0, .int .u8 0, .int .u8 0, .int .u8 0, .int .u8 0, .int .u8 0, .int .u8 0, .int .u8 0, .int .u8 0, .int .u8 0, .int .u8 0, .int .u8 0, .int .u8 0, .int .u8 0, .int .u8 0, .int .u8 0, .int .u8 0, .int .u8 0, .int .u8 0, .int .u8 0, .int .u8 0, .int .u8 0, .int .u8 0, .int .u8 0, .int .u8 0, .int .u8 0, .int .u8 0, .int .u8 0, .int .u8 0, .int .u8 0, .int .u8 0, .int .u8 0, .int .u8 0, .int .u8 0, .int .u8 0, .int .u8 0, .int .u8 0, .int .u8 0, .int .u8 0, .int .u8 0, .int .u8 0, .int .u8 0, .int .u8 0, .int .u8 0, .int .u8 0, .int .u8 0, .int .u8 0, .int .u8 0, .int .u8 0, .int .u8 0, .int .u8 0, .int .u8 0, .int .u8 0, .int .u8 0, .int .u8 0, .int .u8 0, .int .u8 0, .int .u8 0, .int .u8 0, .int .u8 0, .int .u8 0, .int .u8 0, .int .u8 0, .int .u8 0, .int .u8 0, .int .u8 0, .int .u8 0, .int .u8 0, .int .u8 0, .int .u8 0, .int .u8 0, .int .u8 0, .int .u8 0, .int .u8 0, .int .u8 0, .int .u8 0, .int .u8 0, .int .u8 0, .int .u8 0, .int .u8 0, .int .u8 0, .int .u8 0, .int .u8 0, .int .u8 0, .int .u8 0, .int .u8 0, .int .u8 0, .int .u8 0, .int .u8 0, .int .u8 0, .int .u8 0, .int .u8 0, .int .u8 0, .int .u8 0, .int .u8 0, .int .u8 0, .int .u8 0, .int .u8 0, .int .u8 0, .int .u8 0, .int .u8 0, .int .u8 0, .int .u8 0, .int .u8 0, .int .u8 0, .int .u8 0, .int .u8 0, .int .u8 0, .int .u8 0, .int .u8 0, .int .u8 0, .int .u8 0, .int .u8 0, .int .u8 0, .int .u8 0, .int .u8 0, .int .u8 0, .int .u8 0, .int .u8 0, .int .u8 0, .int .u8 0, .int .u8 0, .int .u8 0, .int .u8 0, .int .u8 0, .int .u8 0, .int .u8 0, .int .u8 0, .int .u8 0, .int .u8 0, .int .u8 0, .int .u8 0, .int .u8 0, .int .u8 0, .int .u8 0, .int .u8 0, .int .u8 0, .int .u8 0, .int .u8 0, .int .u8 0, .int .u8 0, .int .u8 0, .int .u8 0, .int .u8 0]) 256 256 := ⟨Tryz.underlying260, by kernel_rfl⟩
theorem ty262 : TyOk Tryz.prog 262 (.struct #[{ name := "lo", type := 5, offset := 0, embedded := false, tag := "", pkgPath := "unicode/utf8", byteOffset := 0 }, { name := "hi", type := 5, offset := 1, embedded := false, tag := "", pkgPath := "unicode/utf8", byteOffset := 1 }]) (.agg #[.int .u8 0, .int .u8 0]) 2 2 := ⟨Tryz.underlying262, by kernel_rfl⟩
theorem ty263 : TyOk Tryz.prog 263 (.array 16 262) (.agg #[.int .u8 0, .int .u8 0, .int .u8 0, .int .u8 0, .int .u8 0, .int .u8 0, .int .u8 0, .int .u8 0, .int .u8 0, .int .u8 0, .int .u8 0, .int .u8 0, .int .u8 0, .int .u8 0, .int .u8 0, .int .u8 0, .int .u8 0, .int .u8 0, .int .u8 0, .int .u8 0, .int .u8 0, .int .u8 0, .int .u8 0, .int .u8 0, .int .u8 0, .int .u8 0, .int .u8 0, .int .u8 0, .int .u8 0, .int .u8 0, .int .u8 0, .int .u8 0]) 32 32 := ⟨Tryz.underlying263, by kernel_rfl⟩
theorem ty264 : TyOk Tryz.prog 264 (.func #[9, 21] #[3] false) (.nilFunc) 1 8 := ⟨Tryz.underlying264, by kernel_rfl⟩
theorem ty265 : TyOk Tryz.prog 265 (.func #[24, 3] #[212, 28] false) (.nilFunc) 1 8 := ⟨Tryz.underlying265, by kernel_rfl⟩
theorem ty266 : TyOk Tryz.prog 266 (.func #[9] #[3] false) (.nilFunc) 1 8 := ⟨Tryz.underlying266, by kernel_rfl⟩
theorem ty268 : TyOk Tryz.prog 268 (.func #[9] #[21, 3] false) (.nilFunc) 1 8 := ⟨Tryz.underlying268, by kernel_rfl⟩
theorem ty269 : TyOk Tryz.prog 269 (.func #[9, 5] #[3] false) (.nilFunc) 1 8 := ⟨Tryz.underlying269, by kernel_rfl⟩
theorem ty271 : TyOk Tryz.prog 271 (.struct #[{ name := "Func", type := 9, offset := 0, embedded := false, tag := "", pkgPath := "", byteOffset := 0 }, { name := "Num", type := 9, offset := 1, embedded := false, tag := "", pkgPath := "", byteOffset := 16 }, { name := "Err", type := 189, offset := 2, embedded := false, tag := "", pkgPath := "", byteOffset := 32 }]) (.agg #[.string ⟨#[]⟩, .string ⟨#[]⟩, .nilIface]) 3 48 := ⟨Tryz.underlying271, by kernel_rfl⟩
theorem ty272 : TyOk Tryz.prog 272 (.func #[9] #[189] false) (.nilFunc) 1 8 := ⟨Tryz.underlying272, by kernel_rfl⟩
theorem ty273 : TyOk Tryz.prog 273 (.func #[3] #[3] false) (.nilFunc) 1 8 := ⟨Tryz.underlying273, by kernel_rfl⟩
theorem ty274 : TyOk Tryz.prog 274 (.func #[4] #[3] false) (.nilFunc) 1 8 := ⟨Tryz.underlying274, by kernel_rfl⟩
theorem ty275 : TyOk Tryz.prog 275 (.array 20 148) (.agg #[.int .u64 0, .int .u64 0, .int .u64 0, .int .u64 0, .int .u64 0, .int .u64 0, .int .u64 0, .int .u64 0, .int .u64 0, .int .u64 0, .int .u64 0, .int .u64 0, .int .u64 0, .int .u64 0, .int .u64 0, .int .u64 0, .int .u64 0, .int .u64 0, .int .u64 0, .int .u64 0]) 20 160 := ⟨Tryz.underlying275, by kernel_rfl⟩
theorem ty276 : TyOk Tryz.prog 276 (.array 65 5) (.agg #[.int .u8 0, .int .u8 0, .int .u8 0, .int .u8 0, .int .u8 0, .int .u8 0, .int .u8 0, .int .u8 0, .int .u8 0, .int .u8 0, .int .u8 0, .int .u8 0, .int .u8 0, .int .u8 0, .int .u8 0, .int .u8 0, .int .u8 0, .int .u8 0, .int .u8 0, .int .u8 0, .int .u8 0, .int .u8 0, .int .u8 0, .int .u8 0, .int .u8 0, .int .u8 0, .int .u8 0, .int .u8 0, .int .u8 0, .int .u8 0, .int .u8 0, .int .u8 0, .int .u8 0, .int .u8 0, .int .u8 0, .int .u8 0, .int .u8 0, .int .u8 0, .int .u8 0, .int .u8 0, .int .u8 0, .int .u8 0, .int .u8 0, .int .u8 0, .int .u8 0, .int .u8 0, .int .u8 0, .int .u8 0, .int .u8 0, .int .u8 0, .int .u8 0, .int .u8 0, .int .u8 0, .int .u8 0, .int .u8 0, .int .u8 0, .int .u8 0, .int .u8 0, .int .u8 0, .int .u8 0, .int .u8 0, .int .u8 0, .int .u8 0, .int .u8 0, .int .u8 0]) 65 65 := ⟨Tryz.underlying276, by kernel_rfl⟩
theorem ty277 : TyOk Tryz.prog 277 (.func #[159] #[3] false) (.nilFunc) 1 8 := ⟨Tryz.underlying277, by kernel_rfl⟩
theorem ty278 : TyOk Tryz.prog 278 (.pointer 5) (.pointer none) 1 8 := ⟨Tryz.underlying278, by kernel_rfl⟩
theorem ty279 : TyOk Tryz.prog 279 (.func #[22, 21] #[22] false) (.nilFunc) 1 8 := ⟨Tryz.underlying279, by kernel_rfl⟩
theorem ty281 : TyOk Tryz.prog 281 (.func #[22] #[155, 28] false) (.nilFunc) 1 8 := ⟨Tryz.underlying281, by kernel_rfl⟩
theorem ty285 : TyOk Tryz.prog 285 (.func #[158] #[3] false) (.nilFunc) 1 8 := ⟨Tryz.underlying285, by kernel_rfl⟩
theorem ty288 : TyOk Tryz.prog 288 (.func #[3] #[22] false) (.nilFunc) 1 8 := ⟨Tryz.underlying288, by kernel_rfl⟩
theorem ty289 : TyOk Tryz.prog 289 (.func #[24, 3] #[155, 28] false) (.nilFunc) 1 8 := ⟨Tryz.underlying289, by kernel_rfl⟩
theorem ty291 : TyOk Tryz.prog 291 (.func #[9] #[158, 158] false) (.nilFunc) 1 8 := ⟨Tryz.underlying291, by kernel_rfl⟩
theorem ty292 : TyOk Tryz.prog 292 (.func #[2, 3] #[9] false) (.nilFunc) 1 8 := ⟨Tryz.underlying292, by kernel_rfl⟩
theorem ty300 : TyOk Tryz.prog 300 (.func #[] #[3] false) (.nilFunc) 1 8 := ⟨Tryz.underlying300, by kernel_rfl⟩
theorem ty308 : TyOk Tryz.prog 308 (.func #[22] #[86, 4] false) (.nilFunc) 1 8 := ⟨Tryz.underlying308, by kernel_rfl⟩
theorem ty309 : TyOk Tryz.prog 309 (.func #[22] #[36, 28] false) (.nilFunc) 1 8 := ⟨Tryz.underlying309, by kernel_rfl⟩
theorem fd28_0 : FldOk Tryz.prog 28 0 0 1 false := ⟨⟨_, _, _, _, _, Tryz.underlying28, rfl, rfl, ty24, rfl⟩⟩
theorem fd28_1 : FldOk Tryz.prog 28 1 1 1 false := ⟨⟨_, _, _, _, _, Tryz.underlying28, rfl, rfl, ty3, rfl⟩⟩
theorem st28 : StrOk Tryz.prog 28 [(0, 1), (1, 1)] := ⟨⟨_, Tryz.underlying28, fun w => by kernel_rfl⟩⟩
theorem fd44_0 : FldOk Tryz.prog 44 0 0 1 false := ⟨⟨_, _, _, _, _, Tryz.underlying44, rfl, rfl, ty42, rfl⟩⟩
theorem fd44_1 : FldOk Tryz.prog 44 1 1 1 false := ⟨⟨_, _, _, _, _, Tryz.underlying44, rfl, rfl, ty42, rfl⟩⟩
theorem st44 : StrOk Tryz.prog 44 [(0, 1), (1, 1)] := ⟨⟨_, Tryz.underlying44, fun w => by kernel_rfl⟩⟩
theorem fd54_0 : FldOk Tryz.prog 54 0 0 1 false := ⟨⟨_, _, _, _, _, Tryz.underlying54, rfl, rfl, ty3, rfl⟩⟩
theorem fd54_1 : FldOk Tryz.prog 54 1 1 1 false := ⟨⟨_, _, _, _, _, Tryz.underlying54, rfl, rfl, ty9, rfl⟩⟩
theorem st54 : StrOk Tryz.prog 54 [(0, 1), (1, 1)] := ⟨⟨_, Tryz.underlying54, fun w => by kernel_rfl⟩⟩
theorem fd56_0 : FldOk Tryz.prog 56 0 0 1 false := ⟨⟨_, _, _, _, _, Tryz.underlying56, rfl, rfl, ty3, rfl⟩⟩
theorem fd56_1 : FldOk Tryz.prog 56 1 1 1 false := ⟨⟨_, _, _, _, _, Tryz.underlying56, rfl, rfl, ty9, rfl⟩⟩
theorem fd56_2 : FldOk Tryz.prog 56 2 2 1 false := ⟨⟨_, _, _, _, _, Tryz.underlying56, rfl, rfl, ty9, rfl⟩⟩
theorem fd56_3 : FldOk Tryz.prog 56 3 3 1 false := ⟨⟨_, _, _, _, _, Tryz.underlying56, rfl, rfl, ty22, rfl⟩⟩
theorem fd56_4 : FldOk Tryz.prog 56 4 4 1 false := ⟨⟨_, _, _, _, _, Tryz.underlying56, rfl, rfl, ty52, rfl⟩⟩
theorem fd56_5 : FldOk Tryz.prog 56 5 5 2 true := ⟨⟨_, _, _, _, _, Tryz.underlying56, rfl, rfl, ty54, rfl⟩⟩
theorem fd56_6 : FldOk Tryz.prog 56 6 7 2 true := ⟨⟨_, _, _, _, _, Tryz.underlying56, rfl, rfl, ty54, rfl⟩⟩
theorem st56 : StrOk Tryz.prog 56 [(0, 1), (1, 1), (2, 1), (3, 1), (4, 1), (5, 2), (7, 2)] := ⟨⟨_, Tryz.underlying56, fun w => by kernel_rfl⟩⟩
theorem fd71_0 : FldOk Tryz.prog 71 0 0 1 false := ⟨⟨_, _, _, _, _, Tryz.underlying71, rfl, rfl, ty4, rfl⟩⟩
theorem fd71_1 : FldOk Tryz.prog 71 1 1 1 false := ⟨⟨_, _, _, _, _, Tryz.underlying71, rfl, rfl, ty22, rfl⟩⟩
theorem fd71_2 : FldOk Tryz.prog 71 2 2 1 false := ⟨⟨_, _, _, _, _, Tryz.underlying71, rfl, rfl, ty42, rfl⟩⟩
theorem fd71_3 : FldOk Tryz.prog 71 3 3 1 false := ⟨⟨_, _, _, _, _, Tryz.underlying71, rfl, rfl, ty22, rfl⟩⟩
theorem st71 : StrOk Tryz.prog 71 [(0, 1), (1, 1), (2, 1), (3, 1)] := ⟨⟨_, Tryz.underlying71, fun w => by kernel_rfl⟩⟩
theorem fd74_0 : FldOk Tryz.prog 74 0 0 1 false := ⟨⟨_, _, _, _, _, Tryz.underlying74, rfl, rfl, ty3, rfl⟩⟩
theorem fd74_1 : FldOk Tryz.prog 74 1 1 1 false := ⟨⟨_, _, _, _, _, Tryz.underlying74, rfl, rfl, ty3, rfl⟩⟩
theorem fd74_2 : FldOk Tryz.prog 74 2 2 1 false := ⟨⟨_, _, _, _, _, Tryz.underlying74, rfl, rfl, ty4, rfl⟩⟩
theorem fd74_3 : FldOk Tryz.prog 74 3 3 1 false := ⟨⟨_, _, _, _, _, Tryz.underlying74, rfl, rfl, ty3, rfl⟩⟩
theorem fd74_4 : FldOk Tryz.prog 74 4 4 1 false := ⟨⟨_, _, _, _, _, Tryz.underlying74, rfl, rfl, ty3, rfl⟩⟩
theorem fd74_5 : FldOk Tryz.prog 74 5 5 1 false := ⟨⟨_, _, _, _, _, Tryz.underlying74, rfl, rfl, ty3, rfl⟩⟩
theorem st74 : StrOk Tryz.prog 74 [(0, 1), (1, 1), (2, 1), (3, 1), (4, 1), (5, 1)] := ⟨⟨_, Tryz.underlying74, fun w => by kernel_rfl⟩⟩
theorem fd80_0 : FldOk Tryz.prog 80 0 0 1 false := ⟨⟨_, _, _, _, _, Tryz.underlying80, rfl, rfl, ty3, rfl⟩⟩
theorem fd80_1 : FldOk Tryz.prog 80 1 1 1 false := ⟨⟨_, _, _, _, _, Tryz.underlying80, rfl, rfl, ty3, rfl⟩⟩
theorem fd80_2 : FldOk Tryz.prog 80 2 2 1 false := ⟨⟨_, _, _, _, _, Tryz.underlying80, rfl, rfl, ty4, rfl⟩⟩
theorem fd80_3 : FldOk Tryz.prog 80 3 3 1 false := ⟨⟨_, _, _, _, _, Tryz.underlying80, rfl, rfl, ty22, rfl⟩⟩
theorem fd80_4 : FldOk Tryz.prog 80 4 4 1 false := ⟨⟨_, _, _, _, _, Tryz.underlying80, rfl, rfl, ty78, rfl⟩⟩
theorem st80 : StrOk Tryz.prog 80 [(0, 1), (1, 1), (2, 1), (3, 1), (4, 1)] := ⟨⟨_, Tryz.underlying80, fun w => by kernel_rfl⟩⟩
theorem fd86_0 : FldOk Tryz.prog 86 0 0 1 false := ⟨⟨_, _, _, _, _, Tryz.underlying86, rfl, rfl, ty9, rfl⟩⟩
theorem fd86_1 : FldOk Tryz.prog 86 1 1 9 true := ⟨⟨_, _, _, _, _, Tryz.underlying86, rfl, rfl, ty56, rfl⟩⟩
theorem st86 : StrOk Tryz.prog 86 [(0, 1), (1, 9)] := ⟨⟨_, Tryz.underlying86, fun w => by kernel_rfl⟩⟩
theorem fd89_0 : FldOk Tryz.prog 89 0 0 1 false := ⟨⟨_, _, _, _, _, Tryz.underlying89, rfl, rfl, ty9, rfl⟩⟩
theorem fd89_1 : FldOk Tryz.prog 89 1 1 1 false := ⟨⟨_, _, _, _, _, Tryz.underlying89, rfl, rfl, ty87, rfl⟩⟩
theorem st89 : StrOk Tryz.prog 89 [(0, 1), (1, 1)] := ⟨⟨_, Tryz.underlying89, fun w => by kernel_rfl⟩⟩
theorem fd97_0 : FldOk Tryz.prog 97 0 0 1 false := ⟨⟨_, _, _, _, _, Tryz.underlying97, rfl, rfl, ty94, rfl⟩⟩
theorem fd97_1 : FldOk Tryz.prog 97 1 1 1 false := ⟨⟨_, _, _, _, _, Tryz.underlying97, rfl, rfl, ty95, rfl⟩⟩
theorem st97 : StrOk Tryz.prog 97 [(0, 1), (1, 1)] := ⟨⟨_, Tryz.underlying97, fun w => by kernel_rfl⟩⟩
theorem fd118_0 : FldOk Tryz.prog 118 0 0 1 false := ⟨⟨_, _, _, _, _, Tryz.underlying118, rfl, rfl, ty115, rfl⟩⟩
theorem fd118_1 : FldOk Tryz.prog 118 1 1 1 false := ⟨⟨_, _, _, _, _, Tryz.underlying118, rfl, rfl, ty116, rfl⟩⟩
theorem st118 : StrOk Tryz.prog 118 [(0, 1), (1, 1)] := ⟨⟨_, Tryz.underlying118, fun w => by kernel_rfl⟩⟩
theorem fd142_0 : FldOk Tryz.prog 142 0 0 1 false := ⟨⟨_, _, _, _, _, Tryz.underlying142, rfl, rfl, ty3, rfl⟩⟩
theorem fd142_1 : FldOk Tryz.prog 142 1 1 1 false := ⟨⟨_, _, _, _, _, Tryz.underlying142, rfl, rfl, ty3, rfl⟩⟩
theorem fd142_2 : FldOk Tryz.prog 142 2 2 1 false := ⟨⟨_, _, _, _, _, Tryz.underlying142, rfl, rfl, ty4, rfl⟩⟩
theorem fd142_3 : FldOk Tryz.prog 142 3 3 1 false := ⟨⟨_, _, _, _, _, Tryz.underlying142, rfl, rfl, ty3, rfl⟩⟩
theorem fd142_4 : FldOk Tryz.prog 142 4 4 1 false := ⟨⟨_, _, _, _, _, Tryz.underlying142, rfl, rfl, ty3, rfl⟩⟩
theorem st142 : StrOk Tryz.prog 142 [(0, 1), (1, 1), (2, 1), (3, 1), (4, 1)] := ⟨⟨_, Tryz.underlying142, fun w => by kernel_rfl⟩⟩
theorem fd155_0 : FldOk Tryz.prog 155 0 0 1 false := ⟨⟨_, _, _, _, _, Tryz.underlying155, rfl, rfl, ty9, rfl⟩⟩
theorem fd155_1 : FldOk Tryz.prog 155 1 1 1 false := ⟨⟨_, _, _, _, _, Tryz.underlying155, rfl, rfl, ty22, rfl⟩⟩
theorem st155 : StrOk Tryz.prog 155 [(0, 1), (1, 1)] := ⟨⟨_, Tryz.underlying155, fun w => by kernel_rfl⟩⟩
theorem fd180_0 : FldOk Tryz.prog 180 0 0 1 false := ⟨⟨_, _, _, _, _, Tryz.underlying180, rfl, rfl, ty3, rfl⟩⟩
theorem fd180_1 : FldOk Tryz.prog 180 1 1 1 false := ⟨⟨_, _, _, _, _, Tryz.underlying180, rfl, rfl, ty22, rfl⟩⟩
theorem st180 : StrOk Tryz.prog 180 [(0, 1), (1, 1)] := ⟨⟨_, Tryz.underlying180, fun w => by kernel_rfl⟩⟩
theorem fd201_0 : FldOk Tryz.prog 201 0 0 1 false := ⟨⟨_, _, _, _, _, Tryz.underlying201, rfl, rfl, ty199, rfl⟩⟩
theorem fd201_1 : FldOk Tryz.prog 201 1 1 1 false := ⟨⟨_, _, _, _, _, Tryz.underlying201, rfl, rfl, ty3, rfl⟩⟩
theorem st201 : StrOk Tryz.prog 201 [(0, 1), (1, 1)] := ⟨⟨_, Tryz.underlying201, fun w => by kernel_rfl⟩⟩
theorem fd206_0 : FldOk Tryz.prog 206 0 0 1 false := ⟨⟨_, _, _, _, _, Tryz.underlying206, rfl, rfl, ty3, rfl⟩⟩
theorem fd206_1 : FldOk Tryz.prog 206 1 1 1 false := ⟨⟨_, _, _, _, _, Tryz.underlying206, rfl, rfl, ty4, rfl⟩⟩
theorem st206 : StrOk Tryz.prog 206 [(0, 1), (1, 1)] := ⟨⟨_, Tryz.underlying206, fun w => by kernel_rfl⟩⟩
theorem fd212_0 : FldOk Tryz.prog 212 0 0 1 false := ⟨⟨_, _, _, _, _, Tryz.underlying212, rfl, rfl, ty3, rfl⟩⟩
theorem fd212_1 : FldOk Tryz.prog 212 1 1 1 false := ⟨⟨_, _, _, _, _, Tryz.underlying212, rfl, rfl, ty3, rfl⟩⟩
theorem fd212_2 : FldOk Tryz.prog 212 2 2 5 true := ⟨⟨_, _, _, _, _, Tryz.underlying212, rfl, rfl, ty80, rfl⟩⟩
theorem fd212_3 : FldOk Tryz.prog 212 3 7 1 false := ⟨⟨_, _, _, _, _, Tryz.underlying212, rfl, rfl, ty210, rfl⟩⟩
theorem st212 : StrOk Tryz.prog 212 [(0, 1), (1, 1), (2, 5), (7, 1)] := ⟨⟨_, Tryz.underlying212, fun w => by kernel_rfl⟩⟩
theorem fd247_0 : FldOk Tryz.prog 247 0 0 1 false := ⟨⟨_, _, _, _, _, Tryz.underlying247, rfl, rfl, ty245, rfl⟩⟩
theorem fd247_1 : FldOk Tryz.prog 247 1 1 1 false := ⟨⟨_, _, _, _, _, Tryz.underlying247, rfl, rfl, ty22, rfl⟩⟩
theorem st247 : StrOk Tryz.prog 247 [(0, 1), (1, 1)] := ⟨⟨_, Tryz.underlying247, fun w => by kernel_rfl⟩⟩
theorem fd262_0 : FldOk Tryz.prog 262 0 0 1 false := ⟨⟨_, _, _, _, _, Tryz.underlying262, rfl, rfl, ty5, rfl⟩⟩
theorem fd262_1 : FldOk Tryz.prog 262 1 1 1 false := ⟨⟨_, _, _, _, _, Tryz.underlying262, rfl, rfl, ty5, rfl⟩⟩
theorem st262 : StrOk Tryz.prog 262 [(0, 1), (1, 1)] := ⟨⟨_, Tryz.underlying262, fun w => by kernel_rfl⟩⟩
def tyL : List (Nat × TypeDesc × Value × Nat × Nat) := [(1, .func #[] #[] false, .nilFunc, 1, 8),
 (2, .int .i64, .int .i64 0, 1, 8),
 (3, .int .i64, .int .i64 0, 1, 8),
 (4, .bool, .bool false, 1, 1),
 (5, .int .u8, .int .u8 0, 1, 1),
 (9, .string, .string ⟨#[]⟩, 1, 16),
 (12, .int .u64, .int .u64 0, 1, 8),
 (21, .int .i32, .int .i32 0, 1, 4),
 (22, .slice 5, .slice none 0 0, 1, 24),
 (23, .func #[] #[4] false, .nilFunc, 1, 8),
 (24, .int .i64, .int .i64 0, 1, 8),
 (26, .func #[22] #[22, 24] false, .nilFunc, 1, 8),
 (28, .struct #[{ name := "Code", type := 24, offset := 0, embedded := false, tag := "", pkgPath := "", byteOffset := 0 }, { name := "Offset", type := 3, offset := 1, embedded := false, tag := "", pkgPath := "", byteOffset := 8 }], .agg #[.int .i64 0, .int .i64 0], 2, 16),
 (30, .func #[22] #[22, 28] false, .nilFunc, 1, 8),
 (32, .func #[22] #[22, 4] false, .nilFunc, 1, 8),
 (33, .func #[22, 22] #[4] false, .nilFunc, 1, 8),
 (34, .func #[22] #[22] false, .nilFunc, 1, 8),
 (35, .func #[28, 3] #[4] false, .nilFunc, 1, 8),
 (36, .slice 86, .slice none 0 0, 1, 24),
 (37, .func #[36] #[4] false, .nilFunc, 1, 8),
 (38, .func #[39, 39] #[4] false, .nilFunc, 1, 8),
 (39, .slice 9, .slice none 0 0, 1, 24),
 (40, .func #[36, 9] #[39] false, .nilFunc, 1, 8),
 (41, .func #[36, 9] #[4] false, .nilFunc, 1, 8),
 (42, .slice 56, .slice none 0 0, 1, 24),
 (44, .struct #[{ name := "Permitted", type := 42, offset := 0, embedded := false, tag := "", pkgPath := "", byteOffset := 0 }, { name := "Excluded", type := 42, offset := 1, embedded := false, tag := "", pkgPath := "", byteOffset := 24 }], .agg #[.slice none 0 0, .slice none 0 0], 2, 48),
 (45, .func #[44] #[4] false, .nilFunc, 1, 8),
 (46, .func #[9, 9] #[4] false, .nilFunc, 1, 8),
 (47, .func #[44, 9] #[4] false, .nilFunc, 1, 8),
 (48, .func #[44, 9, 9] #[4] false, .nilFunc, 1, 8),
 (49, .func #[9, 9, 9] #[4] false, .nilFunc, 1, 8),
 (50, .array 2 9, .agg #[.string ⟨#[]⟩, .string ⟨#[]⟩], 2, 32),
 (51, .slice 153, .slice none 0 0, 1, 24),
 (52, .slice 153, .slice none 0 0, 1, 24),
 (54, .struct #[{ name := "Kind", type := 3, offset := 0, embedded := false, tag := "", pkgPath := "", byteOffset := 0 }, { name := "Value", type := 9, offset := 1, embedded := false, tag := "", pkgPath := "", byteOffset := 8 }], .agg #[.int .i64 0, .string ⟨#[]⟩], 2, 24),
 (56, .struct #[{ name := "Kind", type := 3, offset := 0, embedded := false, tag := "", pkgPath := "", byteOffset := 0 }, { name := "OID", type := 9, offset := 1, embedded := false, tag := "", pkgPath := "", byteOffset := 8 }, { name := "Text", type := 9, offset := 2, embedded := false, tag := "", pkgPath := "", byteOffset := 24 }, { name := "Bytes", type := 22, offset := 3, embedded := false, tag := "", pkgPath := "", byteOffset := 40 }, { name := "Name", type := 52, offset := 4, embedded := false, tag := "", pkgPath := "", byteOffset := 64 }, { name := "Assigner", type := 54, offset := 5, embedded := false, tag := "", pkgPath := "", byteOffset := 88 }, { name := "Party", type := 54, offset := 7, embedded := false, tag := "", pkgPath := "", byteOffset := 112 }], .agg #[.int .i64 0, .string ⟨#[]⟩, .string ⟨#[]⟩, .slice none 0 0, .slice none 0 0, .int .i64 0, .string ⟨#[]⟩, .int .i64 0, .string ⟨#[]⟩], 9, 136),
 (57, .func #[44, 50, 5] #[4] false, .nilFunc, 1, 8),
 (58, .slice 89, .slice none 0 0, 1, 24),
 (59, .int .u16, .int .u16 0, 1, 2),
 (60, .func #[58] #[4] false, .nilFunc, 1, 8),
 (61, .func #[58] #[22, 24] false, .nilFunc, 1, 8),
 (63, .func #[22] #[58, 28] false, .nilFunc, 1, 8),
 (64, .func #[58, 58] #[4] false, .nilFunc, 1, 8),
 (65, .func #[58, 59, 5] #[4] false, .nilFunc, 1, 8),
 (67, .func #[22] #[58, 4] false, .nilFunc, 1, 8),
 (68, .func #[22] #[4] false, .nilFunc, 1, 8),
 (69, .func #[71] #[22, 24] false, .nilFunc, 1, 8),
 (71, .struct #[{ name := "HasID", type := 4, offset := 0, embedded := false, tag := "", pkgPath := "", byteOffset := 0 }, { name := "ID", type := 22, offset := 1, embedded := false, tag := "", pkgPath := "", byteOffset := 8 }, { name := "Issuer", type := 42, offset := 2, embedded := false, tag := "", pkgPath := "", byteOffset := 32 }, { name := "Serial", type := 22, offset := 3, embedded := false, tag := "", pkgPath := "", byteOffset := 56 }], .agg #[.bool false, .slice none 0 0, .slice none 0 0, .slice none 0 0], 4, 80),
 (72, .func #[3, 4, 3, 87] #[22, 24] true, .nilFunc, 1, 8),
 (74, .struct #[{ name := "Class", type := 3, offset := 0, embedded := false, tag := "", pkgPath := "", byteOffset := 0 }, { name := "Number", type := 3, offset := 1, embedded := false, tag := "", pkgPath := "", byteOffset := 8 }, { name := "Constructed", type := 4, offset := 2, embedded := false, tag := "", pkgPath := "", byteOffset := 16 }, { name := "Start", type := 3, offset := 3, embedded := false, tag := "", pkgPath := "", byteOffset := 24 }, { name := "Body", type := 3, offset := 4, embedded := false, tag := "", pkgPath := "", byteOffset := 32 }, { name := "End", type := 3, offset := 5, embedded := false, tag := "", pkgPath := "", byteOffset := 40 }], .agg #[.int .i64 0, .int .i64 0, .bool false, .int .i64 0, .int .i64 0, .int .i64 0], 6, 48),
 (76, .func #[22] #[74, 28] false, .nilFunc, 1, 8),
 (77, .func #[74, 3, 4, 3] #[4] false, .nilFunc, 1, 8),
 (78, .slice 80, .slice none 0 0, 1, 24),
 (80, .struct #[{ name := "Class", type := 3, offset := 0, embedded := false, tag := "", pkgPath := "", byteOffset := 0 }, { name := "Number", type := 3, offset := 1, embedded := false, tag := "", pkgPath := "", byteOffset := 8 }, { name := "Constructed", type := 4, offset := 2, embedded := false, tag := "", pkgPath := "", byteOffset := 16 }, { name := "Content", type := 22, offset := 3, embedded := false, tag := "", pkgPath := "", byteOffset := 24 }, { name := "Kids", type := 78, offset := 4, embedded := false, tag := "", pkgPath := "", byteOffset := 48 }], .agg #[.int .i64 0, .int .i64 0, .bool false, .slice none 0 0, .slice none 0 0], 5, 72),
 (82, .func #[22] #[80, 4] false, .nilFunc, 1, 8),
 (83, .func #[5, 22] #[22] false, .nilFunc, 1, 8),
 (84, .func #[36] #[22, 24] false, .nilFunc, 1, 8),
 (86, .struct #[{ name := "Method", type := 9, offset := 0, embedded := false, tag := "", pkgPath := "", byteOffset := 0 }, { name := "Location", type := 56, offset := 1, embedded := false, tag := "", pkgPath := "", byteOffset := 16 }], .agg #[.string ⟨#[]⟩, .int .i64 0, .string ⟨#[]⟩, .string ⟨#[]⟩, .slice none 0 0, .slice none 0 0, .int .i64 0, .string ⟨#[]⟩, .int .i64 0, .string ⟨#[]⟩], 10, 152),
 (87, .slice 22, .slice none 0 0, 1, 24),
 (89, .struct #[{ name := "OID", type := 9, offset := 0, embedded := false, tag := "", pkgPath := "", byteOffset := 0 }, { name := "Values", type := 87, offset := 1, embedded := false, tag := "", pkgPath := "", byteOffset := 16 }], .agg #[.string ⟨#[]⟩, .slice none 0 0], 2, 40),
 (90, .func #[56] #[4] false, .nilFunc, 1, 8),
 (91, .func #[44] #[22, 24] false, .nilFunc, 1, 8),
 (92, .func #[42] #[4] false, .nilFunc, 1, 8),
 (93, .func #[9] #[9] false, .nilFunc, 1, 8),
 (94, .func #[9, 22] #[89, 4] false, .nilFunc, 1, 8),
 (95, .func #[89] #[9, 22, 4] false, .nilFunc, 1, 8),
 (97, .struct #[{ name := "make", type := 94, offset := 0, embedded := false, tag := "", pkgPath := "cretula/access", byteOffset := 0 }, { name := "split", type := 95, offset := 1, embedded := false, tag := "", pkgPath := "cretula/access", byteOffset := 8 }], .agg #[.nilFunc, .nilFunc], 2, 16),
 (98, .func #[] #[97] false, .nilFunc, 1, 8),
 (99, .func #[87, 87] #[4] false, .nilFunc, 1, 8),
 (100, .func #[5, 87] #[22] false, .nilFunc, 1, 8),
 (101, .func #[9] #[22] false, .nilFunc, 1, 8),
 (102, .func #[9] #[4] false, .nilFunc, 1, 8),
 (103, .func #[87] #[4] false, .nilFunc, 1, 8),
 (104, .func #[80] #[58] false, .nilFunc, 1, 8),
 (105, .func #[71] #[4] false, .nilFunc, 1, 8),
 (106, .func #[4, 3, 22] #[] false, .nilFunc, 1, 8),
 (107, .func #[42] #[22, 24] false, .nilFunc, 1, 8),
 (108, .func #[87] #[22, 24] true, .nilFunc, 1, 8),
 (109, .func #[3, 4, 3, 22] #[22, 24] false, .nilFunc, 1, 8),
 (110, .func #[87] #[22] true, .nilFunc, 1, 8),
 (111, .func #[22, 3, 3] #[74, 28] false, .nilFunc, 1, 8),
 (113, .func #[22, 3] #[80, 28] false, .nilFunc, 1, 8),
 (114, .func #[3] #[22, 24] false, .nilFunc, 1, 8),
 (115, .func #[9, 22] #[86, 4] false, .nilFunc, 1, 8),
 (116, .func #[86] #[9, 22, 4] false, .nilFunc, 1, 8),
 (118, .struct #[{ name := "make", type := 115, offset := 0, embedded := false, tag := "", pkgPath := "cretula/access", byteOffset := 0 }, { name := "split", type := 116, offset := 1, embedded := false, tag := "", pkgPath := "cretula/access", byteOffset := 8 }], .agg #[.nilFunc, .nilFunc], 2, 16),
 (119, .func #[] #[118] false, .nilFunc, 1, 8),
 (120, .func #[52] #[4] false, .nilFunc, 1, 8),
 (121, .slice 42, .slice none 0 0, 1, 24),
 (122, .func #[56] #[22, 24] false, .nilFunc, 1, 8),
 (123, .slice 74, .slice none 0 0, 1, 24),
 (125, .func #[22, 3, 3] #[123, 28] false, .nilFunc, 1, 8),
 (127, .func #[9] #[22, 24] false, .nilFunc, 1, 8),
 (129, .func #[22] #[89, 4] false, .nilFunc, 1, 8),
 (130, .slice 158, .slice none 0 0, 1, 24),
 (132, .func #[9] #[130, 24] false, .nilFunc, 1, 8),
 (133, .func #[22, 22] #[3] false, .nilFunc, 1, 8),
 (134, .func #[22] #[80, 28] false, .nilFunc, 1, 8),
 (135, .func #[80] #[9] false, .nilFunc, 1, 8),
 (136, .func #[80, 3] #[80] false, .nilFunc, 1, 8),
 (137, .func #[80] #[22] false, .nilFunc, 1, 8),
 (139, .func #[3, 4, 3] #[5, 24] false, .nilFunc, 1, 8),
 (140, .func #[22, 3] #[22] false, .nilFunc, 1, 8),
 (142, .struct #[{ name := "Class", type := 3, offset := 0, embedded := false, tag := "", pkgPath := "", byteOffset := 0 }, { name := "Number", type := 3, offset := 1, embedded := false, tag := "", pkgPath := "", byteOffset := 8 }, { name := "Constructed", type := 4, offset := 2, embedded := false, tag := "", pkgPath := "", byteOffset := 16 }, { name := "Length", type := 3, offset := 3, embedded := false, tag := "", pkgPath := "", byteOffset := 24 }, { name := "Size", type := 3, offset := 4, embedded := false, tag := "", pkgPath := "", byteOffset := 32 }], .agg #[.int .i64 0, .int .i64 0, .bool false, .int .i64 0, .int .i64 0], 5, 40),
 (144, .func #[22] #[142, 28] false, .nilFunc, 1, 8),
 (146, .func #[22, 3] #[80, 3, 28] false, .nilFunc, 1, 8),
 (147, .func #[148] #[22] false, .nilFunc, 1, 8),
 (148, .int .u64, .int .u64 0, 1, 8),
 (150, .func #[22] #[56, 28] false, .nilFunc, 1, 8),
 (151, .func #[153] #[4] false, .nilFunc, 1, 8),
 (152, .slice 155, .slice none 0 0, 1, 24),
 (153, .slice 155, .slice none 0 0, 1, 24),
 (155, .struct #[{ name := "OID", type := 9, offset := 0, embedded := false, tag := "", pkgPath := "", byteOffset := 0 }, { name := "Value", type := 22, offset := 1, embedded := false, tag := "", pkgPath := "", byteOffset := 16 }], .agg #[.string ⟨#[]⟩, .slice none 0 0], 2, 40),
 (156, .func #[3] #[4] false, .nilFunc, 1, 8),
 (157, .func #[87, 68] #[4] false, .nilFunc, 1, 8),
 (158, .int .u32, .int .u32 0, 1, 4),
 (159, .int .u64, .int .u64 0, 1, 8),
 (160, .func #[22] #[] false, .nilFunc, 1, 8),
 (161, .func #[158] #[] false, .nilFunc, 1, 8),
 (163, .func #[22] #[9, 24] false, .nilFunc, 1, 8),
 (164, .func #[148, 4] #[22] false, .nilFunc, 1, 8),
 (166, .func #[9] #[148, 4] false, .nilFunc, 1, 8),
 (167, .func #[130] #[4] false, .nilFunc, 1, 8),
 (169, .func #[5] #[3, 4, 3, 24] false, .nilFunc, 1, 8),
 (171, .func #[22] #[3, 3, 28] false, .nilFunc, 1, 8),
 (173, .func #[22] #[142, 22, 22, 28] false, .nilFunc, 1, 8),
 (174, .func #[180] #[56, 4] false, .nilFunc, 1, 8),
 (176, .map 3 174, .map none, 1, 8),
 (177, .func #[] #[176] false, .nilFunc, 1, 8),
 (180, .struct #[{ name := "kind", type := 3, offset := 0, embedded := false, tag := "", pkgPath := "cretula/general", byteOffset := 0 }, { name := "content", type := 22, offset := 1, embedded := false, tag := "", pkgPath := "cretula/general", byteOffset := 8 }], .agg #[.int .i64 0, .slice none 0 0], 2, 32),
 (181, .func #[155] #[4] false, .nilFunc, 1, 8),
 (182, .func #[3, 22] #[22, 24] false, .nilFunc, 1, 8),
 (183, .func #[54] #[22, 24] false, .nilFunc, 1, 8),
 (184, .func #[52] #[22, 24] false, .nilFunc, 1, 8),
 (185, .slice 54, .slice none 0 0, 1, 24),
 (186, .func #[87, 68] #[3] false, .nilFunc, 1, 8),
 (187, .func #[9, 9] #[39] false, .nilFunc, 1, 8),
 (191, .func #[9, 3, 3] #[148, 189] false, .nilFunc, 1, 8),
 (192, .func #[148, 3] #[9] false, .nilFunc, 1, 8),
 (193, .slice 148, .slice none 0 0, 1, 24),
 (194, .func #[130] #[9, 24] false, .nilFunc, 1, 8),
 (195, .func #[148] #[9] false, .nilFunc, 1, 8),
 (196, .func #[24, 3] #[3, 3, 28] false, .nilFunc, 1, 8),
 (197, .func #[] #[56, 4] false, .nilFunc, 1, 8),
 (198, .func #[54] #[4] false, .nilFunc, 1, 8),
 (199, .func #[21] #[4] false, .nilFunc, 1, 8),
 (201, .struct #[{ name := "has", type := 199, offset := 0, embedded := false, tag := "", pkgPath := "cretula/charset", byteOffset := 0 }, { name := "width", type := 3, offset := 1, embedded := false, tag := "", pkgPath := "cretula/charset", byteOffset := 8 }], .agg #[.nilFunc, .int .i64 0], 2, 16),
 (202, .map 3 201, .map none, 1, 8),
 (203, .func #[] #[202] false, .nilFunc, 1, 8),
 (204, .func #[3, 114] #[22, 24] false, .nilFunc, 1, 8),
 (206, .struct #[{ name := "number", type := 3, offset := 0, embedded := false, tag := "", pkgPath := "cretula/dn", byteOffset := 0 }, { name := "sorted", type := 4, offset := 1, embedded := false, tag := "", pkgPath := "cretula/dn", byteOffset := 8 }], .agg #[.int .i64 0, .bool false], 2, 16),
 (207, .func #[153] #[22, 24] false, .nilFunc, 1, 8),
 (208, .func #[22, 22, 209] #[3] false, .nilFunc, 1, 8),
 (209, .func #[5, 5] #[3] false, .nilFunc, 1, 8),
 (210, .slice 212, .slice none 0 0, 1, 24),
 (212, .struct #[{ name := "at", type := 3, offset := 0, embedded := false, tag := "", pkgPath := "cretula/tree", byteOffset := 0 }, { name := "end", type := 3, offset := 1, embedded := false, tag := "", pkgPath := "cretula/tree", byteOffset := 8 }, { name := "node", type := 80, offset := 2, embedded := false, tag := "", pkgPath := "cretula/tree", byteOffset := 16 }, { name := "kids", type := 210, offset := 7, embedded := false, tag := "", pkgPath := "cretula/tree", byteOffset := 88 }], .agg #[.int .i64 0, .int .i64 0, .int .i64 0, .int .i64 0, .bool false, .slice none 0 0, .slice none 0 0, .slice none 0 0], 8, 112),
 (214, .func #[22] #[212, 28] false, .nilFunc, 1, 8),
 (215, .func #[9, 9, 3, 3] #[39] false, .nilFunc, 1, 8),
 (216, .func #[9, 9, 3, 3, 189] #[189] false, .nilFunc, 1, 8),
 (217, .func #[39, 9] #[9] false, .nilFunc, 1, 8),
 (218, .func #[22] #[87] false, .nilFunc, 1, 8),
 (219, .func #[22, 3] #[22, 4] false, .nilFunc, 1, 8),
 (221, .func #[3, 22] #[54, 24] false, .nilFunc, 1, 8),
 (223, .func #[22] #[52, 28] false, .nilFunc, 1, 8),
 (225, .func #[22] #[54, 4] false, .nilFunc, 1, 8),
 (227, .func #[9, 21] #[4] false, .nilFunc, 1, 8),
 (228, .func #[21, 21] #[199] false, .nilFunc, 1, 8),
 (229, .func #[155] #[22, 24] false, .nilFunc, 1, 8),
 (230, .func #[5] #[4] false, .nilFunc, 1, 8),
 (231, .func #[22, 3, 3, 3] #[212, 28] false, .nilFunc, 1, 8),
 (232, .func #[9, 3] #[39] false, .nilFunc, 1, 8),
 (233, .func #[9, 9] #[3] false, .nilFunc, 1, 8),
 (234, .int .i64, .int .i64 0, 1, 8),
 (235, .func #[5] #[5] false, .nilFunc, 1, 8),
 (236, .pointer 271, .pointer none, 1, 8),
 (237, .func #[9, 9] #[236] false, .nilFunc, 1, 8),
 (238, .func #[9, 9, 3] #[236] false, .nilFunc, 1, 8),
 (239, .func #[3] #[9] false, .nilFunc, 1, 8),
 (240, .array 24 5, .agg #[.int .u8 0, .int .u8 0, .int .u8 0, .int .u8 0, .int .u8 0, .int .u8 0, .int .u8 0, .int .u8 0, .int .u8 0, .int .u8 0, .int .u8 0, .int .u8 0, .int .u8 0, .int .u8 0, .int .u8 0, .int .u8 0, .int .u8 0, .int .u8 0, .int .u8 0, .int .u8 0, .int .u8 0, .int .u8 0, .int .u8 0, .int .u8 0], 24, 24),
 (241, .func #[148] #[3] false, .nilFunc, 1, 8),
 (242, .func #[22, 148] #[] false, .nilFunc, 1, 8),
 (244, .func #[22, 148, 3, 4, 4] #[22, 9] false, .nilFunc, 1, 8),
 (245, .pointer 247, .pointer none, 1, 8),
 (247, .struct #[{ name := "addr", type := 245, offset := 0, embedded := false, tag := "", pkgPath := "strings", byteOffset := 0 }, { name := "buf", type := 22, offset := 1, embedded := false, tag := "", pkgPath := "strings", byteOffset := 8 }], .agg #[.pointer none, .slice none 0 0], 2, 32),
 (248, .func #[3] #[] false, .nilFunc, 1, 8),
 (250, .func #[9] #[3, 189] false, .nilFunc, 1, 8),
 (251, .func #[] #[9] false, .nilFunc, 1, 8),
 (252, .func #[22] #[148, 4] false, .nilFunc, 1, 8),
 (253, .func #[68] #[] false, .nilFunc, 1, 8),
 (254, .func #[68] #[] false, .nilFunc, 1, 8),
 (255, .func #[22, 3] #[254] false, .nilFunc, 1, 8),
 (256, .func #[21] #[3, 189] false, .nilFunc, 1, 8),
 (258, .func #[22] #[153, 28] false, .nilFunc, 1, 8),
 (259, .func #[9] #[12] false, .nilFunc, 1, 8),
 (260, .array 256 5, .agg #[.int .u8 0, .int .u8 0, .int .u8 0, .int .u8 0, .int .u8 0, .int .u8 0, .int .u8 0, .int .u8 0, .int .u8 0, .int .u8 0, .int .u8 0, .int .u8 0, .int .u8 0, .int .u8 0, .int .u8 0, .int .u8 0, .int .u8 0, .int .u8 0, .int .u8 0, .int .u8 0, .int .u8 0, .int .u8 0, .int .u8 0, .int .u8 0, .int .u8 0, .int .u8 0, .int .u8 0, .int .u8 0, .int .u8 0, .int .u8 0, .int .u8 0, .int .u8 0, .int .u8 0, .int .u8 0, .int .u8 0, .int .u8 0, .int .u8 0, .int .u8 0, .int .u8 0, .int .u8 0, .int .u8 0, .int .u8 0, .int .u8 0, .int .u8 0, .int .u8 0, .int .u8 0, .int .u8 0, .int .u8 0, .int .u8 0, .int .u8 0, .int .u8 0, .int .u8 0, .int .u8 0, .int .u8 0, .int .u8 0, .int .u8 0, .int .u8 0, .int .u8 0, .int .u8 0, .int .u8 0, .int .u8 0, .int .u8 0, .int .u8 0, .int .u8 0, .int .u8 0, .int .u8 0, .int .u8 0, .int .u8 0, .int .u8 0, .int .u8 0, .int .u8 0, .int .u8 0, .int .u8 0, .int .u8 0, .int .u8 0, .int .u8 0, .int .u8 0, .int .u8 0, .int .u8 0, .int .u8 0, .int .u8 0, .int .u8 0, .int .u8 0, .int .u8 0, .int .u8 0, .int .u8 0, .int .u8 0, .int .u8 0, .int .u8 0, .int .u8 0, .int .u8 0, .int .u8 0, .int .u8 0, .int .u8 0, .int .u8 0, .int .u8 0, .int .u8 0, .int .u8 0, .int .u8 0, .int .u8 0, .int .u8 0, .int .u8 0, .int .u8 0, .int .u8 0, .int .u8 0, .int .u8 0, .int .u8 0, .int .u8 0, .int .u8 0, .int .u8 0, .int .u8 0, .int .u8 0, .int .u8 0, .int .u8 0, .int .u8 0, .int .u8 0, .int .u8 0, .int .u8 0, .int .u8 0, .int .u8 0, .int .u8 0, .int .u8 0, .int .u8 0, .int .u8 0, .int .u8 0, .int .u8 0, .int .u8 0, .int .u8 0, .int .u8 0, .int .u8 0, .int .u8 0, .int .u8 0, .int .u8 0, .int .u8 0, .int .u8 0, .int .u8 0, .int .u8 0, .int .u8 0, .int .u8 0, .int .u8 0, .int .u8 0, .int .u8 0, .int .u8 0, .int .u8 0, .int .u8 0, .int .u8 0, .int .u8 0, .int .u8 0, .int .u8 0, .int .u8 0, .int .u8 0, .int .u8 0, .int .u8 0, .int .u8 0, .int .u8 0, .int .u8 0, .int .u8 0, .int .u8 0, .int .u8 0, .int .u8 0, .int .u8 0, .int .u8 0, .int .u8 0, .int .u8 0, .int .u8 0, .int .u8 0, .int .u8 0, .int .u8 0, .int .u8 0, .int .u8 0, .int .u8 0, .int .u8 0, .int .u8 0, .int .u8 0, .int .u8 0, .int .u8 0, .int .u8 0, .int .u8 0, .int .u8 0, .int .u8 0, .int .u8 0, .int .u8 0, .int .u8 0, .int .u8 0, .int .u8 0, .int .u8 0, .int .u8 0, .int .u8 0, .int .u8 0, .int .u8 0, .int .u8 0, .int .u8 0, .int .u8 0, .int .u8 0, .int .u8 0, .int .u8 0, .int .u8 0, .int .u8 0, .int .u8 0, .int .u8 0, .int .u8 0, .int .u8 0, .int .u8 0, .int .u8 0, .int .u8 0, .int .u8 0, .int .u8 0, .int .u8 0, .int .u8 0, .int .u8 0, .int .u8 0, .int .u8 0, .int .u8 0, .int .u8 0, .int .u8 0, .int .u8 0, .int .u8 0, .int .u8 0, .int .u8 0, .int .u8 0, .int .u8 0, .int .u8 0, .int .u8 0, .int .u8 0, .int .u8 0, .int .u8 0, .int .u8 0, .int .u8 0, .int .u8 0, .int .u8 0, .int .u8 0, .int .u8 0, .int .u8 0, .int .u8 0, .int .u8 0, .int .u8 0, .int .u8 0, .int .u8 0, .int .u8 0, .int .u8 0, .int .u8 0, .int .u8 0, .int .u8 0, .int .u8 0, .int .u8 0, .int .u8 0, .int .u8 0, .int .u8 0, .int .u8 0, .int .u8 0, .int .u8 0, .int .u8 0, .int .u8 0, .int .u8 0, .int .u8 0, .int .u8 0], 256, 256),
 (262, .struct #[{ name := "lo", type := 5, offset := 0, embedded := false, tag := "", pkgPath := "unicode/utf8", byteOffset := 0 }, { name := "hi", type := 5, offset := 1, embedded := false, tag := "", pkgPath := "unicode/utf8", byteOffset := 1 }], .agg #[.int .u8 0, .int .u8 0], 2, 2),
 (263, .array 16 262, .agg #[.int .u8 0, .int .u8 0, .int .u8 0, .int .u8 0, .int .u8 0, .int .u8 0, .int .u8 0, .int .u8 0, .int .u8 0, .int .u8 0, .int .u8 0, .int .u8 0, .int .u8 0, .int .u8 0, .int .u8 0, .int .u8 0, .int .u8 0, .int .u8 0, .int .u8 0, .int .u8 0, .int .u8 0, .int .u8 0, .int .u8 0, .int .u8 0, .int .u8 0, .int .u8 0, .int .u8 0, .int .u8 0, .int .u8 0, .int .u8 0, .int .u8 0, .int .u8 0], 32, 32),
 (264, .func #[9, 21] #[3] false, .nilFunc, 1, 8),
 (265, .func #[24, 3] #[212, 28] false, .nilFunc, 1, 8),
 (266, .func #[9] #[3] false, .nilFunc, 1, 8),
 (268, .func #[9] #[21, 3] false, .nilFunc, 1, 8),
 (269, .func #[9, 5] #[3] false, .nilFunc, 1, 8),
 (271, .struct #[{ name := "Func", type := 9, offset := 0, embedded := false, tag := "", pkgPath := "", byteOffset := 0 }, { name := "Num", type := 9, offset := 1, embedded := false, tag := "", pkgPath := "", byteOffset := 16 }, { name := "Err", type := 189, offset := 2, embedded := false, tag := "", pkgPath := "", byteOffset := 32 }], .agg #[.string ⟨#[]⟩, .string ⟨#[]⟩, .nilIface], 3, 48),
 (272, .func #[9] #[189] false, .nilFunc, 1, 8),
 (273, .func #[3] #[3] false, .nilFunc, 1, 8),
 (274, .func #[4] #[3] false, .nilFunc, 1, 8),
 (275, .array 20 148, .agg #[.int .u64 0, .int .u64 0, .int .u64 0, .int .u64 0, .int .u64 0, .int .u64 0, .int .u64 0, .int .u64 0, .int .u64 0, .int .u64 0, .int .u64 0, .int .u64 0, .int .u64 0, .int .u64 0, .int .u64 0, .int .u64 0, .int .u64 0, .int .u64 0, .int .u64 0, .int .u64 0], 20, 160),
 (276, .array 65 5, .agg #[.int .u8 0, .int .u8 0, .int .u8 0, .int .u8 0, .int .u8 0, .int .u8 0, .int .u8 0, .int .u8 0, .int .u8 0, .int .u8 0, .int .u8 0, .int .u8 0, .int .u8 0, .int .u8 0, .int .u8 0, .int .u8 0, .int .u8 0, .int .u8 0, .int .u8 0, .int .u8 0, .int .u8 0, .int .u8 0, .int .u8 0, .int .u8 0, .int .u8 0, .int .u8 0, .int .u8 0, .int .u8 0, .int .u8 0, .int .u8 0, .int .u8 0, .int .u8 0, .int .u8 0, .int .u8 0, .int .u8 0, .int .u8 0, .int .u8 0, .int .u8 0, .int .u8 0, .int .u8 0, .int .u8 0, .int .u8 0, .int .u8 0, .int .u8 0, .int .u8 0, .int .u8 0, .int .u8 0, .int .u8 0, .int .u8 0, .int .u8 0, .int .u8 0, .int .u8 0, .int .u8 0, .int .u8 0, .int .u8 0, .int .u8 0, .int .u8 0, .int .u8 0, .int .u8 0, .int .u8 0, .int .u8 0, .int .u8 0, .int .u8 0, .int .u8 0, .int .u8 0], 65, 65),
 (277, .func #[159] #[3] false, .nilFunc, 1, 8),
 (278, .pointer 5, .pointer none, 1, 8),
 (279, .func #[22, 21] #[22] false, .nilFunc, 1, 8),
 (281, .func #[22] #[155, 28] false, .nilFunc, 1, 8),
 (285, .func #[158] #[3] false, .nilFunc, 1, 8),
 (288, .func #[3] #[22] false, .nilFunc, 1, 8),
 (289, .func #[24, 3] #[155, 28] false, .nilFunc, 1, 8),
 (291, .func #[9] #[158, 158] false, .nilFunc, 1, 8),
 (292, .func #[2, 3] #[9] false, .nilFunc, 1, 8),
 (300, .func #[] #[3] false, .nilFunc, 1, 8),
 (308, .func #[22] #[86, 4] false, .nilFunc, 1, 8),
 (309, .func #[22] #[36, 28] false, .nilFunc, 1, 8)]
def All {α : Type} (Q : α → Prop) : List α → Prop
 | [] => True
 | x :: r => Q x ∧ All Q r
theorem lk_all {β : Type} {Q : Nat × β → Prop} {t : Nat} {x : β} : ∀ {l : List (Nat × β)}, All Q l → lk t l = some x → Q (t, x)
 | [], _, h => by cases h
 | (k, b) :: r, ha, h => by
   simp only [lk] at h
   cases hb : Nat.beq k t with
   | true => rw [hb] at h; cases h; obtain rfl := Nat.eq_of_beq_eq_true hb; exact ha.1
   | false => rw [hb] at h; exact lk_all ha.2 h
theorem tyAll : All (fun e : Nat × TypeDesc × Value × Nat × Nat => TyOk Tryz.prog e.1 e.2.1 e.2.2.1 e.2.2.2.1 e.2.2.2.2) tyL := ⟨ty1, ty2, ty3, ty4, ty5, ty9, ty12, ty21, ty22, ty23, ty24, ty26, ty28, ty30, ty32, ty33, ty34, ty35, ty36, ty37, ty38, ty39, ty40, ty41, ty42, ty44, ty45, ty46, ty47, ty48, ty49, ty50, ty51, ty52, ty54, ty56, ty57, ty58, ty59, ty60, ty61, ty63, ty64, ty65, ty67, ty68, ty69, ty71, ty72, ty74, ty76, ty77, ty78, ty80, ty82, ty83, ty84, ty86, ty87, ty89, ty90, ty91, ty92, ty93, ty94, ty95, ty97, ty98, ty99, ty100, ty101, ty102, ty103, ty104, ty105, ty106, ty107, ty108, ty109, ty110, ty111, ty113, ty114, ty115, ty116, ty118, ty119, ty120, ty121, ty122, ty123, ty125, ty127, ty129, ty130, ty132, ty133, ty134, ty135, ty136, ty137, ty139, ty140, ty142, ty144, ty146, ty147, ty148, ty150, ty151, ty152, ty153, ty155, ty156, ty157, ty158, ty159, ty160, ty161, ty163, ty164, ty166, ty167, ty169, ty171, ty173, ty174, ty176, ty177, ty180, ty181, ty182, ty183, ty184, ty185, ty186, ty187, ty191, ty192, ty193, ty194, ty195, ty196, ty197, ty198, ty199, ty201, ty202, ty203, ty204, ty206, ty207, ty208, ty209, ty210, ty212, ty214, ty215, ty216, ty217, ty218, ty219, ty221, ty223, ty225, ty227, ty228, ty229, ty230, ty231, ty232, ty233, ty234, ty235, ty236, ty237, ty238, ty239, ty240, ty241, ty242, ty244, ty245, ty247, ty248, ty250, ty251, ty252, ty253, ty254, ty255, ty256, ty258, ty259, ty260, ty262, ty263, ty264, ty265, ty266, ty268, ty269, ty271, ty272, ty273, ty274, ty275, ty276, ty277, ty278, ty279, ty281, ty285, ty288, ty289, ty291, ty292, ty300, ty308, ty309, trivial⟩
theorem tyOk {t : Nat} {d : TypeDesc} {z : Value} {sz b : Nat} (h : lk t tyL = some (d, z, sz, b)) : TyOk Tryz.prog t d z sz b := lk_all tyAll h
def fdL : List (Nat × List (Nat × Nat × Bool)) := [(28, [(0, 1, false), (1, 1, false)]),
 (44, [(0, 1, false), (1, 1, false)]),
 (54, [(0, 1, false), (1, 1, false)]),
 (56, [(0, 1, false), (1, 1, false), (2, 1, false), (3, 1, false), (4, 1, false), (5, 2, true), (7, 2, true)]),
 (71, [(0, 1, false), (1, 1, false), (2, 1, false), (3, 1, false)]),
 (74, [(0, 1, false), (1, 1, false), (2, 1, false), (3, 1, false), (4, 1, false), (5, 1, false)]),
 (80, [(0, 1, false), (1, 1, false), (2, 1, false), (3, 1, false), (4, 1, false)]),
 (86, [(0, 1, false), (1, 9, true)]),
 (89, [(0, 1, false), (1, 1, false)]),
 (97, [(0, 1, false), (1, 1, false)]),
 (118, [(0, 1, false), (1, 1, false)]),
 (142, [(0, 1, false), (1, 1, false), (2, 1, false), (3, 1, false), (4, 1, false)]),
 (155, [(0, 1, false), (1, 1, false)]),
 (180, [(0, 1, false), (1, 1, false)]),
 (201, [(0, 1, false), (1, 1, false)]),
 (206, [(0, 1, false), (1, 1, false)]),
 (212, [(0, 1, false), (1, 1, false), (2, 5, true), (7, 1, false)]),
 (247, [(0, 1, false), (1, 1, false)]),
 (262, [(0, 1, false), (1, 1, false)])]
def AllF (t : Nat) : Nat → List (Nat × Nat × Bool) → Prop
 | _, [] => True
 | i, x :: r => FldOk Tryz.prog t i x.1 x.2.1 x.2.2 ∧ AllF t (i + 1) r
theorem allF_get {t : Nat} {x : Nat × Nat × Bool} : ∀ {l : List (Nat × Nat × Bool)} {k i : Nat}, AllF t k l → l[i]? = some x → FldOk Tryz.prog t (k + i) x.1 x.2.1 x.2.2
 | [], _, _, _, h => by simp at h
 | y :: r, k, 0, ha, h => by simp at h; subst h; exact ha.1
 | y :: r, k, i + 1, ha, h => by
   have := allF_get (i := i) ha.2 (by simpa using h)
   rw [show k + (i + 1) = k + 1 + i by omega]; exact this
def fdG (t i : Nat) : Option (Nat × Nat × Bool) := match lk t fdL with
 | some l => l[i]?
 | none => none
theorem fdAll : All (fun e : Nat × List (Nat × Nat × Bool) => AllF e.1 0 e.2) fdL := ⟨⟨fd28_0, fd28_1, trivial⟩, ⟨fd44_0, fd44_1, trivial⟩, ⟨fd54_0, fd54_1, trivial⟩, ⟨fd56_0, fd56_1, fd56_2, fd56_3, fd56_4, fd56_5, fd56_6, trivial⟩, ⟨fd71_0, fd71_1, fd71_2, fd71_3, trivial⟩, ⟨fd74_0, fd74_1, fd74_2, fd74_3, fd74_4, fd74_5, trivial⟩, ⟨fd80_0, fd80_1, fd80_2, fd80_3, fd80_4, trivial⟩, ⟨fd86_0, fd86_1, trivial⟩, ⟨fd89_0, fd89_1, trivial⟩, ⟨fd97_0, fd97_1, trivial⟩, ⟨fd118_0, fd118_1, trivial⟩, ⟨fd142_0, fd142_1, fd142_2, fd142_3, fd142_4, trivial⟩, ⟨fd155_0, fd155_1, trivial⟩, ⟨fd180_0, fd180_1, trivial⟩, ⟨fd201_0, fd201_1, trivial⟩, ⟨fd206_0, fd206_1, trivial⟩, ⟨fd212_0, fd212_1, fd212_2, fd212_3, trivial⟩, ⟨fd247_0, fd247_1, trivial⟩, ⟨fd262_0, fd262_1, trivial⟩, trivial⟩
theorem fdOk {t i off sz : Nat} {ag : Bool} (h : fdG t i = some (off, sz, ag)) : FldOk Tryz.prog t i off sz ag := by
 unfold fdG at h
 split at h
 ·rename_i l hl
  have := allF_get (k := 0) (lk_all fdAll hl) h
  rw [Nat.zero_add] at this
  exact this
 ·cases h
def stL : List (Nat × List (Nat × Nat)) := [(28, [(0, 1), (1, 1)]),
 (44, [(0, 1), (1, 1)]),
 (54, [(0, 1), (1, 1)]),
 (56, [(0, 1), (1, 1), (2, 1), (3, 1), (4, 1), (5, 2), (7, 2)]),
 (71, [(0, 1), (1, 1), (2, 1), (3, 1)]),
 (74, [(0, 1), (1, 1), (2, 1), (3, 1), (4, 1), (5, 1)]),
 (80, [(0, 1), (1, 1), (2, 1), (3, 1), (4, 1)]),
 (86, [(0, 1), (1, 9)]),
 (89, [(0, 1), (1, 1)]),
 (97, [(0, 1), (1, 1)]),
 (118, [(0, 1), (1, 1)]),
 (142, [(0, 1), (1, 1), (2, 1), (3, 1), (4, 1)]),
 (155, [(0, 1), (1, 1)]),
 (180, [(0, 1), (1, 1)]),
 (201, [(0, 1), (1, 1)]),
 (206, [(0, 1), (1, 1)]),
 (212, [(0, 1), (1, 1), (2, 5), (7, 1)]),
 (247, [(0, 1), (1, 1)]),
 (262, [(0, 1), (1, 1)])]
theorem stAll : All (fun e : Nat × List (Nat × Nat) => StrOk Tryz.prog e.1 e.2) stL := ⟨st28, st44, st54, st56, st71, st74, st80, st86, st89, st97, st118, st142, st155, st180, st201, st206, st212, st247, st262, trivial⟩
theorem stOk {t : Nat} {pl : List (Nat × Nat)} (h : lk t stL = some pl) : StrOk Tryz.prog t pl := lk_all stAll h
theorem mixed : Tryz.prog.follows .mixedOrders = true := by kernel_rfl
def muL : List Nat := [111, 110, 61]
end Go.Proofs.YtblabcopgeobgaaGreatDoor

namespace Go.Proofs.YtblabcopgeobgaaGreatDoor
open Go.RowKit
def tab : Tab := ⟨tyL, fdL, stL, muL, 0⟩
theorem tabOk : TabOk Tryz.prog tab where
 ty := fun h => tyOk h
 fd := fun h1 h2 => fdOk (by unfold fdG; rw [show lk _ fdL = _ from h1]; exact h2)
 st := fun h => stOk h
end Go.Proofs.YtblabcopgeobgaaGreatDoor

namespace Go.Proofs.YtblabcopgeobgaaGreatDoor
open Go.RowKit
def dropK {β : Type} (k : Nat) : List (Nat × β) → List (Nat × β)
 | [] => []
 | (j, b) :: r => match Nat.beq j k with
   | true => dropK k r
   | false => (j, b) :: dropK k r
theorem lk_dropK {β : Type} {k t : Nat} {x : β} : ∀ {l : List (Nat × β)}, lk t (dropK k l) = some x → lk t l = some x
 | [], h => by cases h
 | (j, b) :: r, h => by
   unfold dropK at h
   cases hj : Nat.beq j k with
   | true =>
     rw [hj] at h
     simp only [lk]
     cases ht : Nat.beq j t with
     | true =>
       exfalso
       obtain rfl := Nat.eq_of_beq_eq_true hj
       obtain rfl := Nat.eq_of_beq_eq_true ht
       have : ∀ l : List (Nat × β), lk j (dropK j l) = none := by
        intro l
        induction l with
        | nil => rfl
        | cons p r ih =>
          obtain ⟨q, c⟩ := p
          unfold dropK
          cases hq : Nat.beq q j with
          | true => exact ih
          | false => simp only [lk, hq]; exact ih
       rw [this] at h; cases h
     | false => exact lk_dropK h
   | false =>
     rw [hj] at h
     simp only [lk] at h ⊢
     cases ht : Nat.beq j t with
     | true => rw [ht] at h; exact h
     | false => rw [ht] at h; exact lk_dropK h
def tabX (ms : List Nat) : Tab := ⟨dropK 5 tyL, fdL, stL, ms ++ muL, 0⟩
theorem tabXOk (ms : List Nat) : TabOk Tryz.prog (tabX ms) where
 ty := fun {t d z sz b} h => tyOk (lk_dropK (k := 5) (show lk t (dropK 5 tyL) = _ from h))
 fd := fun h1 h2 => fdOk (by unfold fdG; rw [show lk _ fdL = _ from h1]; exact h2)
 st := fun h => stOk h
theorem tyB : TyOk Tryz.prog 5 (.int .u8) (.int .u8 0) 1 1 := tabOk.ty rfl
theorem ones_bytes (l : List UInt8) : ones ((bytesL l).map AV.d) = true := by
 induction l with
 | nil => rfl
 | cons x r ih => show (true && ones ((bytesL r).map AV.d)) = true; rw [ih]; rfl
theorem data_bytes (l : List UInt8) : dataOf ((bytesL l).map AV.d) = some (bytesL l) := by
 induction l with
 | nil => rfl
 | cons x r ih =>
   show dataOf (.d (.v (.int .u8 x.toNat)) :: (bytesL r).map AV.d) = _
   unfold dataOf; rw [ih]; rfl
theorem splice_set {α : Type} {l : List α} {i : Nat} (x : α) (h : i < l.length) : splice l i [x] = l.set i x := by
 unfold splice
 rw [List.set_eq_take_append_cons_drop, if_pos h]
 simp
theorem bytes_set (l : List UInt8) (i : Nat) (x : UInt8) : ((bytesL l).map AV.d).set i (cv x.toNat) = (bytesL (l.set i x)).map AV.d := by
 unfold bytesL
 rw [List.map_set, List.map_set]
section
variable {C : Cx} {o : Oper} {σ : AS} {t : Nat}
theorem step_loadW {x : Operand} {k i : Nat} {l : List UInt8} {b : UInt8} (ho : o.op = .load 5 x) (hd : o.dst = some t) (ht : t < C.N) (hx : σ.eval x = some (.ptr k (0 + i * 1))) (hk : lk k σ.bx = some ((bytesL l).map AV.d)) (hu : l[i]? = some b) : AStep Tryz.prog C o σ (σ.put t (cv b.toNat)) :=
 step_load ho hd ht hx hk tyB rfl (by rw [Nat.zero_add, Nat.mul_one, List.getElem?_map, bytesL_get, hu]; rfl)
theorem step_storeW {x y : Operand} {k i : Nat} {l : List UInt8} {b : UInt8} (ho : o.op = .store 5 x y) (hd : o.dst = none) (hx : σ.eval x = some (.ptr k (0 + i * 1))) (hk : lk k σ.bx = some ((bytesL l).map AV.d)) (hy : σ.eval y = some (cv b.toNat)) (hi : i < l.length) :
 AStep Tryz.prog C o σ ⟨σ.tm, (k, (bytesL (l.set i b)).map AV.d) :: σ.bx, σ.tk⟩ := by
 have h := step_store (P := Tryz.prog) (C := C) (σ := σ) ho hd hx hk hy tyB rfl rfl (by rw [List.length_map, bytesL_len]; omega)
 rwa [show (cv b.toNat).cells = [cv b.toNat] from rfl, Nat.zero_add, Nat.mul_one, splice_set _ (by rw [List.length_map, bytesL_len]; omega), bytes_set] at h
end
theorem ent_frzL {σ : AS} {k n sz : Nat} {cs : List AV} {ds : List D} (ss : List Nat) (hk : lk k σ.bx = some cs) (hd : dataOf cs = some ds) (hs : ∀ s ∈ ss, lk s σ.tm = some (.pk k 0 n sz)) (hn : n * sz ≤ ds.length) (h1 : ones cs = true) : Ent σ ⟨ss.map (fun s => (s, .d (.sl false n sz (ds.take (n * sz))))) ++ frT k ds σ.tm, frB k ds σ.bx, σ.tk⟩ := by
 rintro C a w ⟨bm, gt, fp, hg0⟩
 obtain ⟨fp', hg, hR⟩ := hg0.frz hk hd
 refine ⟨bm, gt, fp', { hg with tm := fun t u hu => ?_ }⟩
 have key : ∀ l : List Nat, (∀ s ∈ l, s ∈ ss) → lk t (l.map (fun s => (s, AV.d (.sl false n sz (ds.take (n * sz))))) ++ frT k ds σ.tm) = some u → ∃ v, C.val a t = some v ∧ RA C.W.heap.size fp' w bm gt u v := by
  intro l
  induction l with
  | nil => intro _ hu; exact hg.tm t u hu
  | cons s r ih =>
    intro hm hu
    rw [List.map_cons, List.cons_append] at hu
    by_cases e1 : s = t
    ·subst e1
     rw [lk_same] at hu; cases hu
     obtain ⟨v, k1, k2⟩ := hg0.tm s _ (hs s (hm s (by simp)))
     refine ⟨v, k1, ?_⟩
     cases k2 with
     | pk q1 q2 => exact .d (hR n sz _ h1 hn q1 q2)
    ·rw [lk_ne _ _ e1] at hu
     exact ih (fun x hx => hm x (by simp [hx])) hu
 exact key ss (fun _ h => h) hu
theorem NStep.ent {P : Program} {C : Cx} {o : Oper} {tm : TM} {bx : BX} {tk : TK} {K : KS} {σ : AS} (he : Ent ⟨tm, bx, tk⟩ σ) (h : NStep P C o σ.tm σ.bx σ.tk K) : NStep P C o tm bx tk K := by
 obtain ⟨S, h1, h2⟩ := h.h
 exact ⟨S, fun a w hG => h1 a w (he C a w hG), h2⟩
theorem NStep.frz {C : Cx} {o : Oper} {tm : TM} {bx : BX} {tk : TK} {K : KS} (ss : List Nat) (k : Nat) {l : List UInt8} (hk : lk k bx = Option.some ((bytesL l).map AV.d)) (hs : ∀ s ∈ ss, lk s tm = Option.some (.pk k 0 l.length 1)) (h : NStep Tryz.prog C o (ss.map (fun s => (s, .d (bytesD false l))) ++ frT k (bytesL l) tm) (frB k (bytesL l) bx) tk K) : NStep Tryz.prog C o tm bx tk K := by
 refine NStep.ent (ent_frzL (σ := ⟨tm, bx, tk⟩) ss hk (data_bytes l) hs (by rw [bytesL_len, Nat.mul_one]; exact Nat.le_refl _) (ones_bytes l)) ?_
 rw [Nat.mul_one, List.take_of_length_le (by rw [bytesL_len]; exact Nat.le_refl _)]
 exact h
theorem NStep.frz2 {C : Cx} {o : Oper} {tm : TM} {bx : BX} {tk : TK} {K : KS} (s1 s2 k n : Nat) {l : List UInt8} (hn : n = l.length) (hk : lk k bx = Option.some ((bytesL l).map AV.d)) (h1 : lk s1 tm = Option.some (.pk k 0 n 1)) (h2 : lk s2 tm = Option.some (.pk k 0 n 1)) (h : frTK k (bytesL l) tm (fun tm' => forceL (frB k (bytesL l) bx) (fun bx' => NStep Tryz.prog C o ((s1, .d (bytesD false l)) :: (s2, .d (bytesD false l)) :: tm') bx' tk K))) : NStep Tryz.prog C o tm bx tk K := by
 subst hn
 exact NStep.frz [s1, s2] k hk (fun s hs => by
  rcases List.mem_cons.1 hs with rfl | hs
  ·exact h1
  ·rw [List.mem_singleton.1 hs]; exact h2) (forceL_eq (frTK_eq h))
theorem NStep.call {P : Program} {C : Cx} {o : Oper} {tm : TM} {bx : BX} {tk : TK} {K : KS} {t : Nat} {f : FuncId} {args : Array Operand} {ats : Array TypeId} {us fs : List AV} {r : AV} (hcall : ACalls P f fs (fun r' => r' = r)) (ho : o.op = .call { callee := .value (.func f), args := args, argTypes := ats }) (hd : o.dst = Option.some t) (ht : t < C.N) (κ : Nat) (hc : AS.clean κ ⟨tm, bx, tk⟩ = true)
 (hu : evL ⟨tm, bx, tk⟩ args.toList = Option.some us) (hn : AV.noPtrs us = true) (hgv : AV.gives us = fs) (k : K (AS.res ⟨tm, bx, tk⟩ t κ r).tm (AS.res ⟨tm, bx, tk⟩ t κ r).bx (AS.res ⟨tm, bx, tk⟩ t κ r).tk) : NStep P C o tm bx tk K :=
 NStep.some (step_call ho hd ht hc hu hn hgv hcall) fun σ' ⟨r', hr, h⟩ => by subst hr h; exact k
theorem NStep.callX {P : Program} {C : Cx} {o : Oper} {tm : TM} {bx : BX} {tk : TK} {K : KS} {t : Nat} {f : FuncId} {args : Array Operand} {ats : Array TypeId} {us fs : List AV} {l : List UInt8} {e : TypeId} {rs : List AV} (hcall : ACalls P f fs (fun r' => r' = .tup (ownB 0 e l :: rs))) (hl : 0 < l.length) (hrs : flatA rs = true) (ho : o.op = .call { callee := .value (.func f), args := args, argTypes := ats }) (hd : o.dst = Option.some t) (ht : t < C.N) (κ : Nat) (hc : AS.clean κ ⟨tm, bx, tk⟩ = true)
 (hu : evL ⟨tm, bx, tk⟩ args.toList = Option.some us) (hn : AV.noPtrs us = true) (hgv : AV.gives us = fs) (k : K ((t, .tup (.pk κ 0 l.length 1 :: rs)) :: tm) ((κ, (bytesL l).map AV.d) :: bx) tk) : NStep P C o tm bx tk K :=
 NStep.go (step_callX ho hd ht hc hu hn hgv hcall hl (flatL_bytes l) hrs) k
end Go.Proofs.YtblabcopgeobgaaGreatDoor
