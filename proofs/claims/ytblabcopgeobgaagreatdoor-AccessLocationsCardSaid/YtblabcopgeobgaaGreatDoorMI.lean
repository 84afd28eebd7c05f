/- MI: the texts OidP Pre Str Oid Oid2 OidE OidR OidS Tree Tree2 Tree3 Tree4 T T2 T3 Ref10 Pl, one behind the other. No condition but what each lemma says. -/
import Derived.Lib.ItoaNum
import Derived.Lib.SplitLaws
import Derived.Lib.ParseIntBCases
import Derived.Test.YtblabcopgeobgaaGreatDoorMC
import Derived.Test.YtblabcopgeobgaaGreatDoorME
import Derived.Test.YtblabcopgeobgaaGreatDoorMD
import Derived.Lib.ItoaMem
/- Object identifiers: their strings, arcs and octets, in plain Lean. No condition. -/
namespace Go.Proofs.YtblabcopgeobgaaGreatDoor
open Go

/-- The parts between points. -/
def dots : List UInt8 → List (List UInt8)
  | [] => [[]]
  | c :: r => if c = 46 then [] :: dots r else match dots r with
    | p :: ps => (c :: p) :: ps
    | [] => [[c]]
theorem dots_ne : ∀ s, ∃ p ps, dots s = p :: ps
  | [] => ⟨_, _, rfl⟩
  | c :: r => by
    obtain ⟨p, ps, h⟩ := dots_ne r
    unfold dots
    by_cases hc : c = 46
    · rw [if_pos hc]; exact ⟨_, _, rfl⟩
    · rw [if_neg hc, h]; exact ⟨_, _, rfl⟩
open Lib in
theorem index_dot_ne {c : UInt8} {r : List UInt8} (hc : c ≠ 46) : index (c :: r) [46] = if index r [46] == -1 then -1 else index r [46] + 1 := by
  rw [index]; simp [List.isPrefixOf, Ne.symm hc]
open Lib in
theorem splitK_ne {c : UInt8} (hc : c ≠ 46) : ∀ (k : Nat) (r : List UInt8) {p ps}, splitK [46] 0 k r = p :: ps → splitK [46] 0 k (c :: r) = (c :: p) :: ps
  | 0, r, p, ps, h => by rw [splitK] at h ⊢; cases h; rfl
  | k + 1, r, p, ps, h => by
    have hx := index_dot_ne (r := r) hc
    have hg := index_ge r [46]
    rw [splitK] at h ⊢
    by_cases hm : index r [46] = -1
    · rw [if_pos (beq_iff_eq.2 hm)] at h
      rw [if_pos (beq_iff_eq.2 hm)] at hx
      rw [if_pos (beq_iff_eq.2 hx)]
      cases h; rfl
    · rw [if_neg (fun e => hm (beq_iff_eq.1 e))] at h hx
      rw [if_neg (by rw [beq_iff_eq]; omega), hx]
      cases h
      obtain ⟨j, hj⟩ : ∃ j : Nat, index r [46] = j := ⟨(index r [46]).toNat, by omega⟩
      rw [hj]
      rw [show ((j : Int) + 1).toNat = j + 1 by omega, show (j : Int).toNat = j by omega]
      simp
open Lib in
theorem split_dots : ∀ s : List UInt8, splitK [46] 0 (s.count 46) s = dots s
  | [] => rfl
  | c :: r => by
    obtain ⟨p, ps, h⟩ := dots_ne r
    have ih := split_dots r
    rw [dots]
    by_cases hc : c = 46
    · subst hc
      rw [if_pos rfl, List.count_cons_self, splitK]
      have hx : index (46 :: r) [46] = 0 := by rw [index]; simp [List.isPrefixOf]
      rw [if_neg (by rw [hx]; decide), hx, ← ih]
      simp
    · rw [if_neg hc, h, List.count_cons_of_ne (fun e => hc e), splitK_ne hc _ _ (ih.trans h)]
open Lib in
theorem splitB_dots (s : List UInt8) : splitB ⟨#[46]⟩ 0 (countB ⟨⟨s⟩⟩ ⟨#[46]⟩) ⟨⟨s⟩⟩ = (dots s).map fun p => ⟨⟨p⟩⟩ := by
  have h1 := splitB_data ⟨#[46]⟩ 0 (countB ⟨⟨s⟩⟩ ⟨#[46]⟩) ⟨⟨s⟩⟩
  have h2 : countB ⟨⟨s⟩⟩ ⟨#[46]⟩ = s.count 46 := count_one 46 s
  rw [h2] at h1 ⊢
  rw [show splitK ((⟨#[46]⟩ : ByteArray).data.toList) 0 (s.count 46) ((⟨⟨s⟩⟩ : ByteArray).data.toList) = dots s from split_dots s] at h1
  rw [← h1, List.map_map]
  conv => lhs; rw [← List.map_id (splitB ⟨#[46]⟩ 0 (s.count 46) ⟨⟨s⟩⟩)]
  exact List.map_congr_left fun x _ => rfl

/-- The arc that octets spell. -/
def arcS (l : List UInt8) : Option Nat := match Lib.parseUintB 32 l with
  | .ok u => if Lib.decDigits u = l then some u else none
  | _ => none
/-- The number that digits spell behind others. -/
def numS (acc : Nat) (l : List UInt8) : Nat := l.foldl (fun a c => a * 10 + (c.toNat - 48)) acc
theorem numS_cons (acc : Nat) (c : UInt8) (r : List UInt8) : numS acc (c :: r) = numS (acc * 10 + (c.toNat - 48)) r := by unfold numS; rw [List.foldl_cons]
theorem numS_ge : ∀ (l : List UInt8) (acc : Nat), acc ≤ numS acc l
  | [], _ => Nat.le_refl _
  | c :: r, acc => by
    have := numS_ge r (acc * 10 + (c.toNat - 48))
    rw [numS_cons]; omega
open Lib in
theorem parseM_ok : ∀ (l : List UInt8) (acc : Nat), (∀ b ∈ l, 48 ≤ b.toNat ∧ b.toNat ≤ 57) → numS acc l ≤ 4294967295 → parseUintM 4294967295 acc l = .ok (numS acc l)
  | [], _, _, _ => rfl
  | c :: r, acc, h1, h2 => by
    have hc := h1 c (by simp)
    have hg := numS_ge r (acc * 10 + (c.toNat - 48))
    rw [numS_cons] at h2 ⊢
    rw [parseUintM, if_pos hc, if_neg (by omega), if_neg (by omega)]
    exact parseM_ok r _ (fun b hb => h1 b (by simp [hb])) h2
open Lib in
theorem parseM_num : ∀ (l : List UInt8) (acc u : Nat), parseUintM 4294967295 acc l = .ok u → numS acc l = u
  | [], _, _, h => by rw [parseUintM] at h; cases h; rfl
  | c :: r, acc, u, h => by
    rw [parseUintM] at h
    split at h
    · split at h
      · cases h
      · split at h
        · cases h
        · exact parseM_num r _ u h
    · cases h
theorem arcS_some {l : List UInt8} {n : Nat} (h : arcS l = some n) : n ≤ 4294967295 ∧ Lib.decDigits n = l := by
  unfold arcS at h
  split at h
  · rename_i u hu
    split at h
    · rename_i he
      cases h
      exact ⟨by have := Lib.parseUintB_le hu; omega, he⟩
    · cases h
  · cases h

/-- Are these arcs those of an object identifier? -/
def rightB : List Nat → Bool
  | x :: y :: _ => decide (x ≤ 2) && (if x < 2 then decide (y < 40) else decide (y ≤ 4294967215))
  | _ => false
def arcsL (ps : List (List UInt8)) : Option (List Nat) := match ps with
  | [] => some []
  | p :: r => match arcS p, arcsL r with
    | some n, some l => some (n :: l)
    | _, _ => none
/-- The arcs of a string. -/
def arcsS (s : List UInt8) : Option (List Nat) := match arcsL (dots s) with
  | some a => if rightB a then some a else none
  | none => none
/-- A string's arcs, joined. -/
def textL : List Nat → List UInt8
  | [] => []
  | [n] => Lib.decDigits n
  | n :: m :: r => Lib.decDigits n ++ 46 :: textL (m :: r)
theorem rightB_ne {a : List Nat} (h : rightB a = true) : ∃ x y r, a = x :: y :: r ∧ x ≤ 2 ∧ (x < 2 → y < 40) ∧ y ≤ 4294967215 := by
  match a, h with
  | x :: y :: r, h =>
    rw [rightB, Bool.and_eq_true, decide_eq_true_eq] at h
    refine ⟨x, y, r, rfl, h.1, fun hx => ?_, ?_⟩
    · have := h.2; rw [if_pos hx, decide_eq_true_eq] at this; exact this
    · have := h.2
      by_cases hx : x < 2
      · rw [if_pos hx, decide_eq_true_eq] at this; omega
      · rw [if_neg hx, decide_eq_true_eq] at this; exact this
theorem arcsL_some : ∀ {ps : List (List UInt8)} {a : List Nat}, arcsL ps = some a → ps = a.map Lib.decDigits ∧ ∀ n ∈ a, n ≤ 4294967295
  | [], a, h => by rw [arcsL] at h; cases h; simp
  | p :: r, a, h => by
    rw [arcsL] at h
    split at h
    · rename_i n l h1 h2
      cases h
      obtain ⟨k1, k2⟩ := arcS_some h1
      obtain ⟨k3, k4⟩ := arcsL_some h2
      refine ⟨by rw [List.map_cons, k2, ← k3], fun m hm => ?_⟩
      rcases List.mem_cons.1 hm with rfl | hm
      · exact k1
      · exact k4 m hm
    · cases h
theorem dots_join : ∀ (s : List UInt8) (a : List Nat), dots s = a.map Lib.decDigits → textL a = s := by
  intro s
  have gen : ∀ (s : List UInt8) (p : List UInt8) (ps : List (List UInt8)), dots s = p :: ps → s = p ++ (ps.flatMap fun q => 46 :: q) := by
    intro s
    induction s with
    | nil => intro p ps h; rw [dots] at h; cases h; rfl
    | cons c r ih =>
      intro p ps h
      obtain ⟨q, qs, h'⟩ := dots_ne r
      have h2 := ih q qs h'
      rw [dots] at h
      by_cases hc : c = 46
      · rw [if_pos hc, h'] at h
        cases h
        rw [List.nil_append, List.flatMap_cons, List.cons_append, ← h2, hc]
      · rw [if_neg hc, h'] at h
        cases h
        rw [List.cons_append, ← h2]
  intro a h
  have tl : ∀ (m : Nat) (r : List Nat), textL (m :: r) = Lib.decDigits m ++ ((r.map Lib.decDigits).flatMap fun q => 46 :: q) := by
    intro m r
    induction r generalizing m with
    | nil => rw [textL]; simp
    | cons k r ih => rw [textL, ih k]; simp
  match a, h with
  | [], h => obtain ⟨q, qs, h'⟩ := dots_ne s; rw [h'] at h; cases h
  | m :: r, h => rw [tl, ← gen s _ _ h]
theorem arcsS_some {s : List UInt8} {a : List Nat} (h : arcsS s = some a) : rightB a = true ∧ (∀ n ∈ a, n ≤ 4294967295) ∧ textL a = s := by
  unfold arcsS at h
  split at h
  · rename_i a' h1
    split at h
    · rename_i h2
      cases h
      obtain ⟨k1, k2⟩ := arcsL_some h1
      exact ⟨h2, k2, dots_join s a k1⟩
    · cases h
  · cases h

/-- A number in octets with seven bits each. -/
def b128 (last : Bool) (n : Nat) : List UInt8 :=
  if h : n < 128 then [UInt8.ofNat (n % 128 + if last then 0 else 128)] else b128 false (n / 128) ++ [UInt8.ofNat (n % 128 + if last then 0 else 128)]
termination_by n
decreasing_by omega
theorem b128_small (l : Bool) {n : Nat} (h : n < 128) : b128 l n = [UInt8.ofNat (n % 128 + if l then 0 else 128)] := by rw [b128, dif_pos h]
theorem b128_big (l : Bool) {n : Nat} (h : ¬ n < 128) : b128 l n = b128 false (n / 128) ++ [UInt8.ofNat (n % 128 + if l then 0 else 128)] := by rw [b128, dif_neg h]
def encO : List Nat → List UInt8
  | x :: y :: r => b128 true (40 * x + y) ++ r.flatMap (b128 true)
  | _ => []
/-- A string's contents octets, and the code; contents octets' string, and the code. -/
def oidE (s : List UInt8) : List UInt8 := match arcsS s with
  | some a => encO a
  | none => []
def oidC (s : List UInt8) : Nat := match arcsS s with
  | some _ => 0
  | none => 8
def oidV (s : List UInt8) : Bool := (arcsS s).isSome
theorem oidV_code (s : List UInt8) : oidV s = true ↔ oidC s = 0 := by
  unfold oidV oidC; cases arcsS s <;> simp
end Go.Proofs.YtblabcopgeobgaaGreatDoor

/- A closure that is given pointers, walked in two parts: first by itself, as if it were a call of its own that makes a slice; then inline, with the caller's boxes. No condition. -/
namespace Go.Proofs.YtblabcopgeobgaaGreatDoor
open Go.RowKit

def takeC : Nat → Code → List Code
  | n + 1, .seq x y => x :: takeC n y
  | _, _ => []
def dropC : Nat → Code → Code
  | n + 1, .seq _ y => dropC n y
  | _, c => c
def seqs : List Code → Code → Code
  | [], c => c
  | x :: r, c => .seq x (seqs r c)
theorem seqs_cut : ∀ (n : Nat) (c : Code), seqs (takeC n c) (dropC n c) = c
  | 0, c => by cases c <;> rfl
  | n + 1, c => by
    cases c with
    | seq x y => show Code.seq x (seqs (takeC n y) (dropC n y)) = _; rw [seqs_cut n y]
    | _ => rfl
def ASeq (P : Program) (C : Cx) : List Code → (AS → Prop) → AS → Prop
  | [], K, σ => K σ
  | x :: r, K, σ => ACode P C x (nx (ASeq P C r K) (fun _ _ => False)) σ
theorem aseq_wp {P : Program} {C : Cx} {B : Code} {Q : Exit → Act → World → Prop} {K : AS → Prop} : ∀ {xs : List Code} {σ : AS} {a : Act} {w : World}, ASeq P C xs K σ → G C σ a w → (∀ σ' a' w', K σ' → G C σ' a' w' → B.wp P Q a' w') → (seqs xs B).wp P Q a w
  | [], σ, a, w, h, hG, k => k σ a w h hG
  | x :: r, σ, a, w, h, hG, k => wp_seq (wp_mono (h a w hG) fun e a' w' ⟨σ', h1, h2⟩ => by
      cases e with
      | normal => exact aseq_wp (xs := r) h1 h2 k
      | _ => exact h1.elim)
noncomputable def seqVC (P : Program) (C : Cx) (T : Tab) : List Code → KS → KS
  | [], K => K
  | x :: r, K => codeVC P C T x (seqVC P C T r K) (fun _ _ _ _ => False) (fun _ _ _ => False)
theorem seqVC_ok {P : Program} {C : Cx} {T : Tab} (hT : TabOk P T) (hm : P.follows .mixedOrders = true) : ∀ {xs : List Code} {K : KS} {tm : TM} {bx : BX} {tk : TK}, seqVC P C T xs K tm bx tk → ASeq P C xs (fun σ => K σ.tm σ.bx σ.tk) ⟨tm, bx, tk⟩
  | [], K, tm, bx, tk, h => h
  | x :: r, K, tm, bx, tk, h => acode_mono (code_ok hT hm x _ _ _ _ _ _ h) fun e σ he => by
      cases e with
      | normal => exact seqVC_ok (xs := r) hT hm he
      | exit id => exact False.elim he
      | ret => exact False.elim he
      | goto l => exact he.elim
      | panic c => exact he.elim
      | _ => first | exact he.elim | exact he
theorem GG.act {C : Cx} {bm : BM} {gt : Nat → Value} {fp : Nat → Nat → Prop} {σ σ' : AS} {a a' : Act} {w : World} (h : GG C bm gt fp σ a w) (hsz : a'.tmps.size = C.N) (hdf : a'.defers = []) (hb : σ'.bx = σ.bx) (hk : σ'.tk = σ.tk)
    (ht : ∀ t u, lk t σ'.tm = some u → ∃ v, C.val a' t = some v ∧ RA C.W.heap.size fp w bm gt u v) : GG C bm gt fp σ' a' w := by
  obtain ⟨tm, bx, tk⟩ := σ'
  simp only at hb hk
  subst hb hk
  exact { sz := hsz, nN := h.nN, gd := h.gd, za := h.za, zb := h.zb, zf := h.zf, ztk := h.ztk, df := hdf, tm := ht, bx := h.bx, bxi := h.bxi, tk := h.tk, tki := h.tki, tkb := h.tkb, fpb := h.fpb, fp0 := h.fp0, fpB := h.fpB, bel := h.bel }
/-- What is kept: slots that hold what they held at first. -/
def keepT (all : List AV) : List Nat → TM
  | [] => []
  | i :: r => match all[i]? with
    | some u => (i, u) :: keepT all r
    | none => keepT all r
def keptV (vs : List Value) (tm : TM) : List Nat → Prop
  | [] => True
  | i :: r => (∃ v, vs[i]? = some v ∧ lk i tm = some (.d (.v v))) ∧ keptV vs tm r
theorem lk_keepT {all : List AV} {t : Nat} {u : AV} : ∀ {l : List Nat}, lk t (keepT all l) = some u → t ∈ l ∧ all[t]? = some u
  | [], h => by cases h
  | i :: r, h => by
    unfold keepT at h
    cases hi : all[i]? with
    | none =>
      rw [hi] at h
      obtain ⟨h1, h2⟩ := lk_keepT (l := r) h
      exact ⟨List.mem_cons_of_mem _ h1, h2⟩
    | some x =>
      rw [hi] at h
      by_cases e : i = t
      · subst e
        rw [lk_same] at h; cases h
        exact ⟨by simp, hi⟩
      · rw [lk_ne _ _ e] at h
        obtain ⟨h1, h2⟩ := lk_keepT (l := r) h
        exact ⟨List.mem_cons_of_mem _ h1, h2⟩
theorem keptV_mem {vs : List Value} {tm : TM} {t : Nat} : ∀ {l : List Nat}, keptV vs tm l → t ∈ l → ∃ v, vs[t]? = some v ∧ lk t tm = some (.d (.v v))
  | [], _, h => by simp at h
  | i :: r, hk, h => by
    rcases List.mem_cons.1 h with rfl | h
    · exact hk.1
    · exact keptV_mem hk.2 h
def argsV : List AV → List Value → Prop
  | [], [] => True
  | u :: us, v :: vs => (match u with
    | .d (.v x) => v = x
    | _ => True) ∧ argsV us vs
  | _, _ => False
theorem argsV_of {B : Nat} {fp : Nat → Nat → Prop} {w : World} {bm : BM} {gt : Nat → Value} : ∀ {us : List AV} {vs : List Value}, vs.length = us.length → (∀ (i : Nat) u v, us[i]? = some u → vs[i]? = some v → RA B fp w bm gt u v) → argsV us vs
  | [], [], _, _ => trivial
  | u :: us, v :: vs, hl, h => by
    refine ⟨?_, argsV_of (by simpa using hl) fun i x y hx hy => h (i + 1) x y (by simpa using hx) (by simpa using hy)⟩
    have h0 := h 0 u v rfl rfl
    split
    · rename_i x; exact h0.val
    · trivial
  | [], _ :: _, hl, _ => by simp at hl
  | _ :: _, [], hl, _ => by simp at hl
def initV : Nat → List Value → TM
  | _, [] => []
  | i, v :: vs => (i, .d (.v v)) :: initV (i + 1) vs
theorem lk_initV {t : Nat} {u : AV} : ∀ (vs : List Value) (i : Nat), lk t (initV i vs) = some u → i ≤ t ∧ ∃ v, vs[t - i]? = some v ∧ u = .d (.v v)
  | [], _, h => by cases h
  | x :: vs, i, h => by
    simp only [initV, lk] at h
    cases hb : Nat.beq i t with
    | true => rw [hb] at h; cases h; obtain rfl := Nat.eq_of_beq_eq_true hb; exact ⟨Nat.le_refl _, x, by simp, rfl⟩
    | false =>
      rw [hb] at h
      obtain ⟨h1, v, h2, h3⟩ := lk_initV vs (i + 1) h
      refine ⟨by omega, v, ?_, h3⟩
      have : t - i = (t - (i + 1)) + 1 := by omega
      rw [this, List.getElem?_cons_succ]; exact h2
/-- What the first part leaves: its slice, and what is kept. -/
def PreK (vs : List Value) (keep : List Nat) (sl n sz : Nat) (e : TypeId) (ds : List D) (σ : AS) : Prop := ∃ κ, lk sl σ.tm = some (.own κ n sz e ds) ∧ lk κ σ.tk = some (n, sz, e) ∧ keptV vs σ.tm keep
theorem inl_pre {P : Program} {C : Cx} {o : Oper} {σ : AS} {bm : BM} {gt : Nat → Value} {fp : Nat → Nat → Prop} {a : Act} {w : World} (hg : GG C bm gt fp σ a w) (hd : ∀ t, o.dst = some t → t < C.N) {f : FuncId} {fn : Func} {c : Code} {us : List AV} {vs : List Value} {S : AS → Prop} (hf : P.funcs[f]? = some fn) (hb : fn.body = some c) (hn : fn.results.size ≤ 4) (hN : us.length ≤ fn.ntmps) (hN6 : fn.ntmps ≤ 1000000) (hl : vs.length = us.length)
    (hr : ∀ (i : Nat) u v, us[i]? = some u → vs[i]? = some v → RA C.W.heap.size fp w bm gt u v) (k sl κ n sz : Nat) (e : TypeId) (ds : List D) (keep : List Nat) (hsl : sl < fn.ntmps) (hκ : (AS.mk (inT us σ.tm) σ.bx σ.tk).clean κ = true)
    (hA : ∀ vs, argsV us vs → ∀ W fp0 z0, ASeq P ⟨W, fp0, fn.ntmps, fun _ => none, z0⟩ (takeC k c) (PreK vs keep sl n sz e ds) ⟨initV 0 vs, [], []⟩)
    (hB : ∀ gh, ACode P ⟨C.W, C.fp0, fn.ntmps, gh, C.z0⟩ (dropC k c) (endI P fn.results.toList o.dst S) ⟨(sl, .own κ n sz e ds) :: (keepT us keep ++ ghM 1000000 σ.tm), σ.bx, (κ, n, sz, e) :: σ.tk⟩) {K : Act → World → Prop} {Q : Exit → Act → World → Prop} (hK : ∀ σ' a' w', S σ' → G C σ' a' w' → K a' w') :
    o.upon P a K Q (.ok (.enter f vs.toArray) w) := by
  rw [Oper.upon_enter]
  have hcalls : Calls P f vs.toArray w fun e w' => ∃ v σ' u, e = .returned v ∧ S (σ'.ret o.dst u) ∧ ∃ bm gt fp a', GG (Cx.inn 1000000 C fn.ntmps a) bm gt fp σ' a' w' ∧ RA C.W.heap.size fp w' bm gt u v := by
    refine calls_of_wp hf hb ?_
    have hGin := hg.inn (M := 1000000) rfl (us := us) (vs := vs) hN6 hl hN hr
    have hG0 : G ⟨w, fp, fn.ntmps, fun _ => none, bm.z⟩ ⟨initV 0 vs, [], []⟩ { tmps := vs.toArray ++ Array.replicate (fn.ntmps - vs.toArray.size) undef, defers := [] } w := by
      refine ⟨⟨fun _ => 0, bm.z⟩, fun _ => undef, fp, { sz := ?_, nN := hN6, gd := hg.gdw, za := fun _ _ x => x, zb := fun _ _ x => .inl x, zf := hg.zf, ztk := fun k x hk => (by cases hk), df := rfl, tm := fun t u hu => ?_, bx := fun k cs hk => (by cases hk), bxi := fun k k' c c' hk => (by cases hk), tk := fun k n sz e hk => (by cases hk), tki := fun k k' x x' hk => (by cases hk), tkb := fun k k' x c hk => (by cases hk), fpb := fun b o hf => ⟨.inl hf, (hg.fpb b o hf).2⟩, fp0 := fun _ _ hf => hf, fpB := fun b o hf => (hg.fpb b o hf).2, bel := Below.refl _ _ }⟩
      · show _ = fn.ntmps
        simp; omega
      · obtain ⟨_, v, h2, rfl⟩ := lk_initV vs 0 hu
        rw [Nat.sub_zero] at h2
        have hlt := (List.getElem?_eq_some_iff.1 h2).1
        refine ⟨v, ?_, .d (.v v)⟩
        rw [Cx.val_lt (by omega), Array.getElem?_append_left (by simpa using hlt)]
        simpa using h2
    have hw : (seqs (takeC k c) (dropC k c)).wp P (bodyPost P fn (fun e w' => ∃ v σ' u, e = .returned v ∧ S (σ'.ret o.dst u) ∧ ∃ bm gt fp a', GG (Cx.inn 1000000 C fn.ntmps a) bm gt fp σ' a' w' ∧ RA C.W.heap.size fp w' bm gt u v)) { tmps := vs.toArray ++ Array.replicate (fn.ntmps - vs.toArray.size) undef, defers := [] } w := by
      refine aseq_wp (hA vs (argsV_of hl hr) w fp bm.z) hG0 ?_
      rintro σ1 a1 w1 ⟨κ1, k1, k2, k3⟩ ⟨bm1, gt1, fp1, hg1⟩
      obtain ⟨v, hv, hra⟩ := hg1.tm sl _ k1
      have hres : ResOk w fp bm.z w1 (.own 0 n sz e ds) v := by
        refine ⟨rfl, fp1, fun _ => gt1 κ1, bm1.z, hg1.fpb, ?_, fun n' sz' e' ht => by cases ht; exact ⟨hg1.tk _ _ _ _ k2, hg1.ztk κ1 _ k2⟩, hg1.za, hg1.zf, hg1.zb⟩
        cases hra with | own hra => exact .own (gt := fun _ => gt1 κ1) (k := 0) hra
      obtain ⟨bm2, gt2, fp2, hg2⟩ := hGin.back (t := sl) (κ := κ) hsl hκ hg1.bel hres
      have hg3 : GG (Cx.inn 1000000 C fn.ntmps a) bm2 gt2 fp2 ⟨(sl, .own κ n sz e ds) :: (keepT us keep ++ ghM 1000000 σ.tm), σ.bx, (κ, n, sz, e) :: σ.tk⟩ a1 w1 := by
        refine hg2.act hg1.sz hg1.df rfl rfl fun t u hu => ?_
        by_cases est : sl = t
        · subst est
          rw [lk_same] at hu
          cases hu
          obtain ⟨v', q1, q2⟩ := hg2.tm sl (.own κ n sz e ds) (by show lk sl ((sl, _) :: _) = _; rw [lk_same]; rfl)
          have e1 : v' = v := by
            rw [Cx.val_lt (by omega)] at q1
            simp only [Act.put] at q1
            have hh : sl < (vs.toArray ++ Array.replicate (fn.ntmps - vs.toArray.size) undef).size := by simp; omega
            rw [Array.getElem?_setIfInBounds_self] at q1
            rw [if_pos hh] at q1
            exact (Option.some.inj q1).symm
          subst e1
          refine ⟨v', ?_, q2⟩
          rw [Cx.val_lt (by omega)] at hv ⊢
          exact hv
        · rw [lk_ne _ _ est] at hu
          rcases lk_app hu with hu | hu
          · obtain ⟨m1, m2⟩ := lk_keepT hu
            have htl := (List.getElem?_eq_some_iff.1 m2).1
            obtain ⟨x, x1, x2⟩ := keptV_mem k3 m1
            obtain ⟨y, y1, y2⟩ := hg1.tm t _ x2
            have exy : y = x := y2.val
            subst exy
            have hin : lk t (inM 1000000 us σ.tm) = some u := by
              have gen : ∀ (l : List AV) (i : Nat) (m : TM) (j : Nat), l[j]? = some u → lk (i + j) (initTm i l ++ m) = some u := by
                intro l
                induction l with
                | nil => intro i m j hj; simp at hj
                | cons q l ih =>
                  intro i m j hj
                  cases j with
                  | zero => simp at hj; subst hj; show lk i ((i, q) :: _) = _; rw [lk_same]
                  | succ j =>
                    show lk (i + (j + 1)) ((i, q) :: (initTm (i + 1) l ++ m)) = _
                    rw [lk_ne _ _ (by omega), show i + (j + 1) = i + 1 + j by omega]
                    exact ih (i + 1) m j (by simpa using hj)
              have := gen us 0 (ghM 1000000 σ.tm) t m2
              rwa [Nat.zero_add] at this
            obtain ⟨z, z1, z2⟩ := hg2.tm t u (by show lk t ((sl, _) :: _) = _; rw [lk_ne _ _ est]; exact hin)
            have hzx : z = y := by
              rw [Cx.val_lt (by omega)] at z1
              simp only [Act.put] at z1
              rw [Array.getElem?_setIfInBounds_ne est, Array.getElem?_append_left (by simp; omega)] at z1
              have : vs[t]? = some z := by simpa using z1
              rw [x1] at this; exact (Option.some.inj this).symm
            subst hzx
            refine ⟨z, ?_, z2⟩
            rw [Cx.val_lt (by omega)] at y1 ⊢
            exact y1
          · obtain ⟨g1, g2⟩ := lk_ghM hu
            have hin : lk t (inM 1000000 us σ.tm) = some u := by
              have gen : ∀ (l : List AV) (i : Nat) (m : TM), i + l.length ≤ t → lk t (initTm i l ++ m) = lk t m := by
                intro l
                induction l with
                | nil => intro i m _; rfl
                | cons q l ih =>
                  intro i m hle
                  rw [List.length_cons] at hle
                  show lk t ((i, q) :: (initTm (i + 1) l ++ m)) = _
                  rw [lk_ne _ _ (by omega)]
                  exact ih (i + 1) m (by omega)
              show lk t (initTm 0 us ++ ghM 1000000 σ.tm) = _
              rw [gen us 0 _ (by omega)]; exact hu
            obtain ⟨z, z1, z2⟩ := hg2.tm t u (by show lk t ((sl, _) :: _) = _; rw [lk_ne _ _ est]; exact hin)
            exact ⟨z, (Cx.val_ge g1).trans ((Cx.val_ge g1).symm.trans z1), z2⟩
      refine wp_mono (hB _ a1 w1 ⟨bm2, gt2, fp2, hg3⟩) fun e a1 w' ⟨σ', hΦ, bm', gt', fp', hg'⟩ => ?_
      have fin : (∃ us, ResAVs P σ' fn.results.toList us ∧ S (σ'.ret o.dst (single us))) → bodyPost P fn (fun e w' => ∃ v σ' u, e = .returned v ∧ S (σ'.ret o.dst u) ∧ ∃ bm gt fp a', GG (Cx.inn 1000000 C fn.ntmps a) bm gt fp σ' a' w' ∧ RA C.W.heap.size fp w' bm gt u v) .ret a1 w' := by
        rintro ⟨us', h1, h2⟩
        obtain ⟨v, hrun, hra⟩ := run_results hg' h1 hn
        exact ⟨hg'.df, v, hrun, v, σ', single us', rfl, h2, bm', gt', fp', a1, hg', hra⟩
      cases e with
      | normal => exact fin hΦ
      | ret => exact fin hΦ
      | _ => exact hΦ.elim
    rw [seqs_cut] at hw
    exact hw
  refine hcalls.mono ?_
  rintro e w' ⟨v, σ', u, rfl, hS, bm', gt', fp', a', hg', hra⟩
  simp only []
  have ho := hg'.out (M := 1000000) rfl hg.sz hg.nN hg.df
  refine hK _ _ _ hS ?_
  unfold AS.ret
  cases hdd : o.dst with
  | none => exact ⟨bm', gt', fp', ho⟩
  | some t => exact ⟨bm', gt', fp', ho.put (t := t) (hd t hdd) hra⟩
/-- A closure that is given pointers, in two parts. -/
theorem nstep_preC {P : Program} {C : Cx} {T : Tab} {o : Oper} {tm : TM} {bx : BX} {tk : TK} {f : FuncId} {s : Nat} {fs cs : List AV} {fn : Func} {c : Code} {args : Array Operand} {ats : Array TypeId} {us : List AV} {K : KS} (k sl κ n sz : Nat) (e : TypeId) (ds : List D) (keep : List Nat) (off N : Nat) (rs : Array ResultVar) (hT : TabOk P T) (hm : P.follows .mixedOrders = true) (ho : o.op = .call { callee := .value (.tmp s), args := args, argTypes := ats }) (hd : dstOk o.dst C.N = true)
    (hv : evT tm (.tmp s) = some (.cl f fs cs)) (hu : evL ⟨tm, bx, tk⟩ args.toList = some us) (hf : P.funcs[f]? = some fn) (hN : fn.ntmps = N) (hn0 : (fn.name == "runtime.NumGoroutine") = false) (hb : fn.body = some c) (hr : fn.results = rs) (hn : Nat.ble rs.size 4 = true) (hA : (Nat.ble (fs ++ us ++ cs).length N && Nat.ble N 1000000 && Nat.blt sl N) = true)
    (hκ : (AS.mk (inT (fs ++ us ++ cs) tm) bx tk).clean κ = true)
    (h1 : ∀ vs, argsV (fs ++ us ++ cs) vs → ∀ W fp0 z0, seqVC P ⟨W, fp0, N, fun _ => none, z0⟩ T (takeC k c) (fun tm bx tk => PreK vs keep sl n sz e ds ⟨tm, bx, tk⟩) (initV 0 vs) [] [])
    (h2 : ∀ gh, forceL ((sl, .own κ n sz e ds) :: (keepT (fs ++ us ++ cs) keep ++ ghM 1000000 tm)) (fun tm => codeVC P ⟨C.W, C.fp0, N, gh, C.z0⟩ ⟨T.ty, T.fd, T.st, T.mu, off⟩ (dropC k c) (endIK T rs o.dst K) (fun _ _ _ _ => False) (endIK T rs o.dst K) tm bx ((κ, n, sz, e) :: tk))) : NStep P C o tm bx tk K := by
  simp only [Bool.and_eq_true] at hA
  subst hN hr
  refine ⟨fun σ' => K σ'.tm σ'.bx σ'.tk, ?_, fun σ' h => h⟩
  rintro a w ⟨bm, gt, fp, hg⟩ K' Q hK
  obtain ⟨hl, hr⟩ := hg.evA hu
  have hv0 := hg.eval (x := .tmp s) (evT_eq hv)
  generalize hvv : a.eval (.tmp s) = v at hv0
  cases hv0 with
  | cl ms ns h3 h4 h6 h7 =>
    have hrun : (execOp a.eval o).run P w = .ok (.enter f (ms ++ args.toList.map a.eval ++ ns).toArray) w := by
      simp only [execOp, ho, resolve, hvv, Deferred.ofValue, invoke, Sem.run_bind, Sem.run_pure, Result.andThen_ok, enters hf hn0 hb]
      obtain ⟨l⟩ := args
      simp
    unfold Oper.wp
    rw [hrun]
    have app : ∀ {l1 l2 : List AV} {m1 m2 : List Value}, m1.length = l1.length → m2.length = l2.length → (∀ (i : Nat) u v, l1[i]? = some u → m1[i]? = some v → RA C.W.heap.size fp w bm gt u v) → (∀ (i : Nat) u v, l2[i]? = some u → m2[i]? = some v → RA C.W.heap.size fp w bm gt u v) → ∀ (i : Nat) u v, (l1 ++ l2)[i]? = some u → (m1 ++ m2)[i]? = some v → RA C.W.heap.size fp w bm gt u v := by
      intro l1 l2 m1 m2 e1 e2 r1 r2 i u v hu hv
      by_cases hi : i < l1.length
      · rw [List.getElem?_append_left hi] at hu
        rw [List.getElem?_append_left (by omega)] at hv
        exact r1 i u v hu hv
      · rw [List.getElem?_append_right (by omega)] at hu
        rw [List.getElem?_append_right (by omega)] at hv
        rw [e1] at hv
        exact r2 _ u v hu hv
    refine inl_pre (us := fs ++ us ++ cs) hg (fun t ht => by unfold dstOk at hd; rw [ht] at hd; exact ltN hd) hf hb (leN hn) (leN hA.1.1) (leN hA.1.2) ?_ (app (by rw [List.length_append, List.length_append, h3, hl]) h4 (app h3 hl h6 hr) h7) k sl κ n sz e ds keep (ltN hA.2) hκ (fun vs hvs W fp0 z0 => seqVC_ok hT hm (h1 vs hvs W fp0 z0)) (fun gh => ?_) hK
    · simp only [List.length_append]; omega
    · have hg := forceL_eq (K := fun tm => codeVC P ⟨C.W, C.fp0, fn.ntmps, gh, C.z0⟩ ⟨T.ty, T.fd, T.st, T.mu, off⟩ (dropC k c) (endIK T fn.results o.dst K) (fun _ _ _ _ => False) (endIK T fn.results o.dst K) tm bx ((κ, n, sz, e) :: tk)) (h2 gh)
      refine acode_mono (code_ok (T := ⟨T.ty, T.fd, T.st, T.mu, off⟩) ⟨hT.ty, hT.fd, hT.st⟩ hm (dropC k c) _ _ _ _ _ _ hg) fun e σ he => ?_
      cases e with
      | normal => exact endIK_ok hT he
      | exit id => exact False.elim he
      | ret => exact endIK_ok hT he
      | goto l => exact he.elim
      | panic c => exact he.elim
      | _ => first | exact he.elim | exact he
end Go.Proofs.YtblabcopgeobgaaGreatDoor

/- strings.Split and Join, strconv.ParseUint and FormatUint as contracts that tell data. No condition but sizes that memory bears. -/
namespace Go.Proofs.YtblabcopgeobgaaGreatDoor
open Go.RowKit

abbrev sx (l : List UInt8) : AV := .d (.v (.string ⟨⟨l⟩⟩))
def strC (l : List UInt8) : List D := [.v (.string ⟨⟨l⟩⟩)]
def strsD (t : Bool) (ps : List (List UInt8)) : D := tabD t 1 strC ps
theorem un_strsD (t : Bool) (ps : List (List UInt8)) : (strsD t ps).un = strsD false ps := un_tab (fun _ => rfl) t 1 ps
theorem strC_get (ps : List (List UInt8)) (i : Nat) : (ps.flatMap strC)[i]? = (ps[i]?).map fun p => D.v (.string ⟨⟨p⟩⟩) := by
  have : ps.flatMap strC = ps.map fun p => D.v (.string ⟨⟨p⟩⟩) := by
    induction ps with
    | nil => rfl
    | cons p r ih => rw [List.flatMap_cons, ih]; rfl
  rw [this, List.getElem?_map]
theorem strC_len (ps : List (List UInt8)) : (ps.flatMap strC).length = ps.length := by
  induction ps with
  | nil => rfl
  | cons p r ih => rw [List.flatMap_cons, List.length_append, ih, List.length_cons]; simp [strC]; omega
theorem dots_len (s : List UInt8) : (dots s).length ≤ s.length + 1 := by
  induction s with
  | nil => simp [dots]
  | cons c r ih =>
    rw [dots]
    split
    · simp only [List.length_cons]; omega
    · obtain ⟨p, ps, h⟩ := dots_ne r
      rw [h] at ih ⊢
      simp only [List.length_cons] at ih ⊢; omega
theorem strSplit_any (s : List UInt8) (hs : s.length ≤ 1000000) : ACalls Tryz.prog 132 [.d (.v (.string ⟨⟨s⟩⟩)), .d (.v (.string ⟨#[46]⟩))] (fun r => r = .d (strsD true (dots s))) := by
  refine .of Tryz.func132 (by kernel_rfl) rfl rfl fun w fp0 bm gt vs hG hr => ?_
  match vs, hr with
  | [a, b], hr =>
    rw [hr.1.val, hr.2.1.val]
    obtain ⟨m, hm⟩ := hG.ml
    refine (Tryz.strings_Split ⟨⟨s⟩⟩ ⟨#[46]⟩ m w (by show s.length < _; omega) hm (by decide)).mono ?_
    rintro e w' ⟨rfl, rfl⟩
    rw [splitB_dots]
    have hl : Lib.countB ⟨⟨s⟩⟩ ⟨#[46]⟩ + 1 = (dots s).length := by
      have h1 := Lib.splitB_all ⟨#[46]⟩ (by decide) 0 _ ⟨⟨s⟩⟩ rfl
      rw [splitB_dots, List.length_map] at h1
      exact h1.symm
    rw [hl]
    have hd := dots_len s
    refine ⟨_, rfl, (Below.refl _ _).alloc (Nat.le_refl _) _, fun fp hfp hnew bm gt => .d ?_⟩
    refine .sl ((dots s).map fun p => .string ⟨⟨p⟩⟩) (Nat.le_refl _) (by unfold maxLen; omega) (by rw [strC_len, Nat.mul_one]) (by rw [strC_len, List.length_map]) (fun h => by cases h) (fun u hu => ?_) (fun i d u hd hu => ?_) (fun i u hu => ?_)
    · obtain ⟨p, -, rfl⟩ := List.mem_map.1 hu; rfl
    · rw [strC_get] at hd
      rw [List.getElem?_map] at hu
      cases hp : (dots s)[i]? with
      | none => rw [hp] at hd; cases hd
      | some p => rw [hp] at hd hu; cases hd; cases hu; exact .v _
    · refine ⟨w.heap.size, 0, rfl, hnew _ _ (Nat.le_refl _) (by rw [World.size_alloc]; omega), fun _ => Nat.le_refl _, ?_⟩
      rw [World.cell?_alloc_new, Nat.zero_add]
      simpa [List.map_map, Function.comp_def] using hu

def errφ : (Nat → Nat → Prop) → World → Value → Prop := fun _ _ v => ∃ t p, v = .iface t p
/-- An error that is not nil. -/
def errA : AV := .sem errφ
def nilE : AV := .d (.v .nilIface)
def puA (l : List UInt8) : AV := match Lib.parseUintB 32 l with
  | .ok u => .tup [.d (.v (.int .u64 u)), nilE]
  | Lib.NumEnd.syntax => .tup [.d (.v (.int .u64 0)), errA]
  | .range => .tup [.d (.v (.int .u64 4294967295)), errA]
theorem err_ra {B : Nat} {fp : Nat → Nat → Prop} {w : World} {bm : BM} {gt : Nat → Value} (t : TypeId) (p : Value) : RA B fp w bm gt errA (.iface t p) := .sem rfl fun _ _ _ _ _ => ⟨t, p, rfl⟩
theorem parseU_any (l : List UInt8) (hl : l.length ≤ 1000000) : ACalls Tryz.prog 133 [.d (.v (.string ⟨⟨l⟩⟩)), iv 10, iv 32] (fun r => r = puA l) := by
  have hs : (⟨⟨l⟩⟩ : ByteArray).size = l.length := rfl
  unfold puA
  have hh : (∃ u, Lib.parseUintB 32 l = .ok u) ∨ Lib.parseUintB 32 l = Lib.NumEnd.syntax ∨ Lib.parseUintB 32 l = .range := by
    cases Lib.parseUintB 32 l
    · exact .inl ⟨_, rfl⟩
    · exact .inr (.inl rfl)
    · exact .inr (.inr rfl)
  rcases hh with ⟨u, hp⟩ | hp | hp <;> rw [hp]
  ·
    refine .of Tryz.func133 (by kernel_rfl) rfl rfl fun w fp0 bm gt vs hG hr => ?_
    match vs, hr with
    | [a, b, c], hr =>
      rw [hr.1.val, hr.2.1.val, hr.2.2.1.val]
      refine (Tryz.strconv_ParseUint_10_at32_ok ⟨⟨l⟩⟩ (by rw [hs]; omega) u hp w).mono ?_
      rintro e w' ⟨rfl, hw⟩
      refine ⟨_, rfl, ?_, fun fp _ _ bm gt => .tup [_, _] rfl fun i x v hx hv => ?_⟩
      · rcases hw with rfl | rfl
        · exact Below.refl _ _
        · exact Lib.bytesWorld_below _ _ _
      · match i with
        | 0 => simp at hx hv; subst hx hv; exact .d (.v _)
        | 1 => simp at hx hv; subst hx hv; exact .d (.v _)
  ·
    refine .of Tryz.func133 (by kernel_rfl) rfl rfl fun w fp0 bm gt vs hG hr => ?_
    match vs, hr with
    | [a, b, c], hr =>
      rw [hr.1.val, hr.2.1.val, hr.2.2.1.val]
      obtain ⟨ev, h1, h2⟩ := hG.syn
      refine (Tryz.strconv_ParseUint_10_at32_syntax ⟨⟨l⟩⟩ (by rw [hs]; omega) hp ev w h1 h2).mono ?_
      rintro e w' ⟨N, rfl, -, -, hb⟩
      refine ⟨_, rfl, hb, fun fp _ _ bm gt => .tup [_, _] rfl fun i x v hx hv => ?_⟩
      match i with
      | 0 => simp at hx hv; subst hx hv; exact .d (.v _)
      | 1 => simp at hx hv; subst hx hv; exact err_ra _ _
  ·
    refine .of Tryz.func133 (by kernel_rfl) rfl rfl fun w fp0 bm gt vs hG hr => ?_
    match vs, hr with
    | [a, b, c], hr =>
      rw [hr.1.val, hr.2.1.val, hr.2.2.1.val]
      obtain ⟨ev, h1, h2⟩ := hG.rng
      refine (Tryz.strconv_ParseUint_10_at32_range ⟨⟨l⟩⟩ (by rw [hs]; omega) hp ev w h1 h2).mono ?_
      rintro e w' ⟨N, rfl, -, -, hb⟩
      refine ⟨_, rfl, hb, fun fp _ _ bm gt => .tup [_, _] rfl fun i x v hx hv => ?_⟩
      match i with
      | 0 => simp at hx hv; subst hx hv; exact .d (.v _)
      | 1 => simp at hx hv; subst hx hv; exact err_ra _ _
open Go.Sort Go.Lib in
set_option maxHeartbeats 6400000 in
set_option maxRecDepth 100000 in
theorem fmtI_walk (u : Nat) (hu64 : u < 18446744073709551616) (w : World) (htab : Lib.TabIs Tryz.prog w "internal/strconv.uint64pow10" .u64 Lib.pow10Tab) :
    Calls Tryz.prog 159 #[.int .u64 u, .int .i64 10] w fun e w' => e = .returned (.string ⟨(Lib.decDigits u).toArray⟩) ∧ Below w.heap.size w w' := by
  by_cases hs : u < 100
  · have d1 : decide ((u : Int) < 100) = true := decide_eq_true (by omega)
    have w1 : IntKind.i64.wrap (u : Int) = (u : Int) := IntWalk.i64_in _ (by omega)
    have hc := fun w => Tryz.internal_strconv_small u hs w
    go_enter Tryz.func159, Tryz.ntmps159
    go_wp2_with (go_at_call 188; refine (hc _).mono ?_; rintro e w' ⟨rfl, rfl⟩)
    go_ret
    exact ⟨rfl, Below.refl _ _⟩
  · have d1 : decide ((u : Int) < 100) = false := decide_eq_false (by omega)
    have hnd20 : Lib.nDigits u ≤ 20 := by have := Lib.numDigits_eq u (by omega) hu64; split at this <;> omega
    have hal : Tryz.prog.arrayLen 240 = 24 := by simp [Program.arrayLen, Tryz.underlying240]
    have hsl1 : ∀ W, (Instr.sliceAt 240 (.pointer (some ⟨w.heap.size, 0, none⟩)) none (some (.int .i64 (Lib.nDigits u : Int))) none).run Tryz.prog W = .ok (.slice (some ⟨w.heap.size, 0, none⟩) (Lib.nDigits u) 24) W := fun W => by
      rw [run_sliceAt_array_h W 240 ⟨w.heap.size, 0, none⟩ (by simp [Program.arrayLen, Program.elem, Tryz.underlying240]) .i64 (Lib.nDigits u : Int) (by omega) (by rw [hal]; omega)]
      rw [hal]; simp [Program.elem, Tryz.underlying240, Tryz.sizeOf5, Result.andThen, slicedAt, Lib.add_plain]
    have hH0 : Holds (fun (b : UInt8) => Value.int .u8 (b.toNat : Int)) (w.alloc (.cells Lib.zeros24 240)) w.heap.size 0 (Array.replicate (Lib.nDigits u) (0 : UInt8)) := fun i hi => by
      simp only [Array.size_replicate] at hi
      refine ⟨?_, World.frozen?_alloc_new _ _ _ _⟩
      rw [World.cell?_alloc_new, Nat.zero_add, Lib.zeros24_at i (by omega)]
      simp [hi]
    have hfmt := Tryz.internal_strconv_formatBase10 w.heap.size 0 24 u (Array.replicate (Lib.nDigits u) 0) (w.alloc (.cells Lib.zeros24 240)) hH0 (by rw [Array.size_replicate]; exact Lib.lt_pow_nDigits u) hu64 (by rw [Array.size_replicate]; omega)
    rw [Array.size_replicate] at hfmt
    have HH0 := Lib.hid hH0
    clear hH0 hal
    go_enter Tryz.func159, Tryz.ntmps159
    go_wp2_with (first
      | (go_at_call 189; refine (Tryz.internal_strconv_numDigits u (by omega) hu64 _ (Lib.tabIs_alloc htab _)).mono ?_; rintro e w' ⟨rfl, rfl⟩))
    go_at_call 190
    refine hfmt.mono ?_
    rintro e w' ⟨rfl, k, v', dk, rfl, hF⟩
    have hcv : (convert 22 9 (.slice (some ⟨w.heap.size, 0, none⟩) (Lib.nDigits u) 24)).run Tryz.prog ((putRow (fun (b : UInt8) => Value.int .u8 (b.toNat : Int)) (w.alloc (.cells Lib.zeros24 240)) w.heap.size 0 dk).drewN k) = .ok (.string ⟨(Lib.decDigits u).toArray⟩) ((putRow (fun (b : UInt8) => Value.int .u8 (b.toNat : Int)) (w.alloc (.cells Lib.zeros24 240)) w.heap.size 0 dk).drewN k) := by
      have h := run_convert_bytes_back (P := Tryz.prog) ((putRow (fun (b : UInt8) => Value.int .u8 (b.toNat : Int)) (w.alloc (.cells Lib.zeros24 240)) w.heap.size 0 dk).drewN k) 22 9 5 ⟨w.heap.size, 0, none⟩ 24 (Lib.decDigits u) Tryz.underlying22 Tryz.underlying5 Tryz.underlying9 (fun j hj => by
        rw [Lib.row_is_numeral hF j hj, Lib.add_plain, World.cell?_drewN]
        exact cell?_putRow (fun (b : UInt8) => Value.int .u8 (b.toNat : Int)) _ w.heap.size 0 _ dk HH0.out (by rw [hF.size, Array.size_replicate]) j (by rw [hF.size]; rw [Lib.decDigits_length] at hj; exact hj))
      rw [Lib.decDigits_length] at h
      exact h
    go_wp2
    go_ret
    refine ⟨rfl, ?_⟩
    refine ⟨rfl, rfl, rfl, ?_, fun i hi => ?_⟩
    · show _ ≤ (putRow _ _ _ _ _).heap.size
      rw [Sort.size_putRow, World.size_alloc]; omega
    · show (putRow _ _ _ _ _).heap[i]? = _
      simp only [putRow, mapBlock, Array.getElem?_modify]
      rw [if_neg (by omega)]
      exact Below.heap_alloc w _ i hi
theorem eqif0 (d : Nat) (w : World) : (Op.equalIn (d + 1) 189 .nilIface .nilIface).run Tryz.prog w = .ok true w := by
  simp [Op.equalIn, Sem.run_bind, run_underlying Tryz.underlying189, Result.andThen]
theorem eqif1 (d : Nat) (t : TypeId) (p : Value) (w : World) : (Op.equalIn (d + 1) 189 (.iface t p) .nilIface).run Tryz.prog w = .ok false w := by
  simp [Op.equalIn, Sem.run_bind, run_underlying Tryz.underlying189, Result.andThen]
theorem neq_nil0 (x : Operand) (w : World) : (do eqGuard .neq 189 x (.const .nilIface) .nilIface .nilIface; binOp .neq 189 .nilIface .nilIface : Sem Value).run Tryz.prog w = .ok (.bool false) w := by
  have e : ∀ w, (Op.equal 189 .nilIface .nilIface).run Tryz.prog w = .ok true w := fun w => eqif0 9999 w
  simp [eqGuard, Result.andThen, binOp, e]
theorem neq_nil1 (x : Operand) (t : TypeId) (p : Value) (w : World) : (do eqGuard .neq 189 x (.const .nilIface) (.iface t p) .nilIface; binOp .neq 189 (.iface t p) .nilIface : Sem Value).run Tryz.prog w = .ok (.bool true) w := by
  have e : ∀ w, (Op.equal 189 (.iface t p) .nilIface).run Tryz.prog w = .ok false w := fun w => eqif1 9999 t p w
  simp [eqGuard, Result.andThen, binOp, e]
section
variable {C : Cx} {o : Oper} {σ : AS} {t : Nat}
theorem step_noErr {yt : TypeId} {x : Operand} (ho : o.op = .binOp .neq 189 x (.const .nilIface) yt) (hd : o.dst = some t) (ht : t < C.N) (hx : σ.eval x = some nilE) : AStep Tryz.prog C o σ (σ.put t (bv false)) :=
  step_val hd ht fun a w bm gt fp hg => ⟨_, by
    have h1 := (hg.eval hx).val
    have h2 : a.eval (.const .nilIface) = .nilIface := rfl
    simp only [execOp, ho, h1, h2]
    rw [Sem.run_bind, neq_nil0 x w]
    rfl, .d (.v _)⟩
theorem step_isErr {yt : TypeId} {x : Operand} (ho : o.op = .binOp .neq 189 x (.const .nilIface) yt) (hd : o.dst = some t) (ht : t < C.N) (hx : σ.eval x = some errA) : AStep Tryz.prog C o σ (σ.put t (bv true)) :=
  step_val hd ht fun a w bm gt fp hg => by
    have h := hg.eval hx
    generalize hv : a.eval x = v at h
    unfold errA at h
    cases h with
    | sem _ h =>
      obtain ⟨ti, p, rfl⟩ := h bm.z w (fun _ _ h => h) (fun _ _ _ => rfl) (NC.refl w)
      refine ⟨_, ?_, .d (.v _)⟩
      have h2 : a.eval (.const .nilIface) = .nilIface := rfl
      simp only [execOp, ho, hv, h2]
      rw [Sem.run_bind, neq_nil1 x ti p w]
      rfl
end
theorem fmtI_any (u : Nat) (hu : u < 18446744073709551616) : ACalls Tryz.prog 159 [.d (.v (.int .u64 u)), iv 10] (fun r => r = sx (Lib.decDigits u)) := by
  refine .of Tryz.func159 (by kernel_rfl) rfl rfl fun w fp0 bm gt vs hG hr => ?_
  match vs, hr with
  | [a, b], hr =>
    rw [hr.1.val, hr.2.1.val]
    refine (fmtI_walk u hu w hG.pow).mono ?_
    rintro e w' ⟨rfl, hb⟩
    exact ⟨_, rfl, hb, fun fp _ _ bm gt => .d (.v _)⟩
set_option maxRecDepth 100000 in
set_option maxHeartbeats 8000000 in
theorem fmt_any (u : Nat) (hu : u < 18446744073709551616) : ACalls Tryz.prog 134 [.d (.v (.int .u64 u)), iv 10] (fun r => r = sx (Lib.decDigits u)) := by
  have h := fmtI_any u hu
  refine acalls_vc 8 _ tabOk mixed Tryz.func134 rfl (by kernel_rfl) rfl rfl rfl rfl fun W0 fp0 z0 => ?_
  (repeat' ((conv => whnf); refine NCall.eq (h) (by rfl) ?_)); (all_goals (conv => whnf))
  all_goals (refine NEnd.eq ?_; (repeat' (first | exact leW_refl _ | refine And.intro ?_ ?_ | exact rfl)))
end Go.Proofs.YtblabcopgeobgaaGreatDoor

/- oid: right, Arcs, Valid, Text, Decode. No condition but sizes that memory bears. -/
namespace Go.Proofs.YtblabcopgeobgaaGreatDoor
open Go.RowKit

def arcC (n : Nat) : List D := [.v (.int .u32 n)]
def arcD (t : Bool) (a : List Nat) : D := tabD t 1 arcC a
theorem un_arcD (t : Bool) (a : List Nat) : (arcD t a).un = arcD false a := un_tab (fun _ => rfl) t 1 a
def numC (n : Nat) : List D := [.v (.int .u64 n)]
def numD (t : Bool) (a : List Nat) : D := tabD t 1 numC a
theorem un_numD (t : Bool) (a : List Nat) : (numD t a).un = numD false a := un_tab (fun _ => rfl) t 1 a
theorem uns_flat {α : Type} {f : α → List D} (hf : ∀ x, D.uns (f x) = f x) (l : List α) : D.uns (l.flatMap f) = l.flatMap f := by
  induction l with
  | nil => rfl
  | cons x r ih => rw [List.flatMap_cons, D.uns_eq, List.map_append, ← D.uns_eq, ← D.uns_eq, hf, ih]
theorem uns_arc (a : List Nat) : D.uns (a.flatMap arcC) = a.flatMap arcC := uns_flat (fun _ => rfl) a
theorem uns_num (a : List Nat) : D.uns (a.flatMap numC) = a.flatMap numC := uns_flat (fun _ => rfl) a
theorem uns_str (a : List (List UInt8)) : D.uns (a.flatMap strC) = a.flatMap strC := uns_flat (fun _ => rfl) a
abbrev uv (n : Nat) : AV := .d (.v (.int .u64 n))
abbrev wv (n : Nat) : AV := .d (.v (.int .u32 n))
set_option maxRecDepth 100000
set_option maxHeartbeats 8000000

theorem oidRight_any (a : List Nat) (ha : a.length ≤ 1000000000) : ACalls Tryz.prog 135 [.d (arcD false a)] (fun r => r = bv (rightB a)) := by
  match a, ha with
  | [], _ =>
    refine acalls_vc 24 _ tabOk mixed Tryz.func135 rfl (by kernel_rfl) rfl rfl rfl rfl fun W0 fp0 z0 => ?_
    (repeat' ((conv => whnf); refine NBr.yes ?_)); (all_goals (conv => whnf))
    all_goals (refine NEnd.eq ?_; (repeat' (first | exact leW_refl _ | refine And.intro ?_ ?_ | exact rfl)))
  | [x], _ =>
    refine acalls_vc 24 _ tabOk mixed Tryz.func135 rfl (by kernel_rfl) rfl rfl rfl rfl fun W0 fp0 z0 => ?_
    (repeat' ((conv => whnf); refine NBr.yes ?_)); (all_goals (conv => whnf))
    all_goals (refine NEnd.eq ?_; (repeat' (first | exact leW_refl _ | refine And.intro ?_ ?_ | exact rfl)))
  | x :: y :: r, ha =>
    have h0 : (x :: y :: r)[0]? = some x := rfl
    have h1 : (x :: y :: r)[1]? = some y := rfl
    simp only [List.length_cons] at ha
    by_cases c1 : x ≤ 2
    · have g1 : decide ((x : Int) > 2) = false := decide_eq_false (by omega)
      by_cases c2 : x < 2
      · have g2 : decide ((x : Int) < 2) = true := decide_eq_true (by omega)
        have e : rightB (x :: y :: r) = decide ((y : Int) < 40) := by
          rw [rightB, if_pos c2, decide_eq_true c1, Bool.true_and, decide_eq_decide]; omega
        rw [e]
        refine acalls_vc 24 _ tabOk mixed Tryz.func135 rfl (by kernel_rfl) rfl rfl rfl rfl fun W0 fp0 z0 => ?_
        (repeat' ((conv => whnf); first | refine NBr.no ?_ | refine NBr.pos (by assumption) ?_ | refine NBr.neg (by assumption) ?_ | refine NIdx.tab (fun _ => rfl) h0 ?_ | refine NIdx.tab (fun _ => rfl) h1 ?_)); (all_goals (conv => whnf))
        all_goals (refine NEnd.eq ?_; (repeat' (first | exact leW_refl _ | refine And.intro ?_ ?_ | exact rfl)))
      · have g2 : decide ((x : Int) < 2) = false := decide_eq_false (by omega)
        have e : rightB (x :: y :: r) = decide ((y : Int) ≤ 4294967215) := by
          rw [rightB, if_neg c2, decide_eq_true c1, Bool.true_and, decide_eq_decide]; omega
        rw [e]
        refine acalls_vc 24 _ tabOk mixed Tryz.func135 rfl (by kernel_rfl) rfl rfl rfl rfl fun W0 fp0 z0 => ?_
        (repeat' ((conv => whnf); first | refine NBr.no ?_ | refine NBr.neg (by assumption) ?_ | refine NIdx.tab (fun _ => rfl) h0 ?_ | refine NIdx.tab (fun _ => rfl) h1 ?_)); (all_goals (conv => whnf))
        all_goals (refine NEnd.eq ?_; (repeat' (first | exact leW_refl _ | refine And.intro ?_ ?_ | exact rfl)))
    · have g1 : decide ((x : Int) > 2) = true := decide_eq_true (by omega)
      have e : rightB (x :: y :: r) = false := by rw [rightB, decide_eq_false c1]; rfl
      rw [e]
      refine acalls_vc 24 _ tabOk mixed Tryz.func135 rfl (by kernel_rfl) rfl rfl rfl rfl fun W0 fp0 z0 => ?_
      (repeat' ((conv => whnf); first | refine NBr.no ?_ | refine NBr.pos (by assumption) ?_ | refine NIdx.tab (fun _ => rfl) h0 ?_)); (all_goals (conv => whnf))
      all_goals (refine NEnd.eq ?_; (repeat' (first | exact leW_refl _ | refine And.intro ?_ ?_ | exact rfl)))
/-- What Arcs gives. -/
def arcsA (s : List UInt8) : AV := match arcsS s with
  | some a => .tup [.d (arcD true a), iv 0]
  | none => .tup [nilA, iv 11]
theorem arcsL_len : ∀ {ps : List (List UInt8)} {a : List Nat}, arcsL ps = some a → a.length = ps.length
  | [], a, h => by rw [arcsL] at h; cases h; rfl
  | p :: r, a, h => by
    rw [arcsL] at h
    split at h
    · rename_i n l h1 h2
      cases h
      rw [List.length_cons, List.length_cons, arcsL_len h2]
    · cases h
theorem arcsL_snoc : ∀ {ps : List (List UInt8)} {a : List Nat} {p : List UInt8} {n : Nat}, arcsL ps = some a → arcS p = some n → arcsL (ps ++ [p]) = some (a ++ [n])
  | [], a, p, n, h, hp => by rw [arcsL] at h; cases h; rw [List.nil_append, arcsL, hp]; rfl
  | q :: r, a, p, n, h, hp => by
    rw [arcsL] at h
    split at h
    · rename_i m l h1 h2
      cases h
      rw [List.cons_append, arcsL, h1, arcsL_snoc h2 hp]; rfl
    · cases h
theorem arcsL_none : ∀ {ps : List (List UInt8)} {p : List UInt8}, p ∈ ps → arcS p = none → arcsL ps = none
  | q :: r, p, h, hp => by
    rw [arcsL]
    rcases List.mem_cons.1 h with rfl | h
    · rw [hp]
    · rw [arcsL_none h hp]; cases arcS q <;> rfl
theorem take_snoc {α : Type} {l : List α} {i : Nat} {x : α} (h : l[i]? = some x) : l.take (i + 1) = l.take i ++ [x] := by
  obtain ⟨hlt, he⟩ := List.getElem?_eq_some_iff.1 h
  rw [List.take_succ_eq_append_getElem hlt, he]
theorem beq_l (a b : List UInt8) : (a == b) = decide (a = b) := by
  by_cases h : a = b
  · subst h; simp
  · rw [decide_eq_false h]; exact beq_false_of_ne h
theorem dots_le : ∀ (s p : List UInt8), p ∈ dots s → p.length ≤ s.length
  | [], p, h => by simp [dots] at h; subst h; simp
  | c :: r, p, h => by
    rw [dots] at h
    split at h
    · rcases List.mem_cons.1 h with rfl | h
      · simp
      · have := dots_le r p h; simp only [List.length_cons]; omega
    · obtain ⟨q, qs, hq⟩ := dots_ne r
      have ih := dots_le r
      rw [hq] at h ih
      rcases List.mem_cons.1 h with rfl | h
      · have := ih q (by simp); simp only [List.length_cons]; omega
      · have := ih p (by simp [h]); simp only [List.length_cons]; omega
theorem oidArcs_any (s : List UInt8) (hs : s.length ≤ 1000000) : ACalls Tryz.prog 109 [sx s] (fun r => r = arcsA s) := by
  have hS := strSplit_any s hs
  have hdl := dots_len s
  have hple := dots_le s
  unfold arcsA arcsS
  generalize dots s = ps at hS hdl hple ⊢
  refine acalls_vc 39 _ tabOk mixed Tryz.func109 rfl (by kernel_rfl) rfl rfl rfl rfl fun W0 fp0 z0 => ?_
  (repeat' ((conv => whnf); refine NCall.eq (hS) (by rfl) ?_)); (all_goals (conv => whnf))
  refine NLoop.goA [.s 4 1 158] (fun p : Nat × List Nat => p.1 ≤ ps.length ∧ arcsL (ps.take p.1) = some p.2) (fun p => ps.length - p.1) (fun p => ⟨[(4, ownT 4 1 158 arcC p.2), (10, .d (strsD true ps)), (11, iv ps.length), (12, iv p.1)], [], [(4, (p.2.length, 1, 158))]⟩) (0, []) ⟨by simp, rfl⟩ (by ((repeat' (first | exact trivial | exact leW_refl _ | refine And.intro ?_ ?_ | exact rfl)))) ?_
  rintro ⟨i, ns⟩ ⟨hi, hns⟩
  simp only at hi hns
  have hnl := arcsL_len hns
  rw [List.length_take] at hnl
  by_cases hik : i < ps.length
  · obtain ⟨p, hp⟩ : ∃ p, ps[i]? = some p := ⟨_, List.getElem?_eq_getElem hik⟩
    have hpl := hple p (List.mem_of_getElem? hp)
    have hP := parseU_any p (by omega)
    unfold puA at hP
    have hh : (∃ u, Lib.parseUintB 32 p = .ok u) ∨ ∃ n, ACalls Tryz.prog 133 [sx p, iv 10, iv 32] (fun r => r = .tup [uv n, errA]) ∧ arcS p = none := by
      unfold arcS
      generalize Lib.parseUintB 32 p = q at hP
      cases q with
      | ok u => exact .inl ⟨u, rfl⟩
      | _ => exact .inr ⟨_, hP, rfl⟩
    rcases hh with ⟨u, hu⟩ | ⟨n, hP', hn⟩
    · rw [hu] at hP
      have hule := Lib.parseUintB_le hu
      have hF := fmt_any u (by omega)
      by_cases hd : Lib.decDigits u = p
      · have ha : arcS p = some u := by unfold arcS; rw [hu]; exact if_pos hd
        have hne : (!(Lib.decDigits u == p)) = false := by rw [hd]; simp
        (repeat' ((conv => whnf); first | refine NBr.no ?_ | refine NBr.neg (by assumption) ?_ | refine NIdx.tab (fun _ => rfl) hp ?_ | refine NCall.eq (hP) (by rfl) ?_ | refine NCall.eq (hF) (by rfl) ?_ | refine NStep.go (step_noErr rfl rfl (ltN rfl) rfl) ?_ | refine NApp.one arcC u ?_ | (with_reducible refine NInt.i64 ?_) | (with_reducible refine NInt.u32 ?_) | (refine NBr.dec (fun hc hcP => ?_) (fun hc hcP => ?_) <;> try (exfalso; omega)))); (all_goals (conv => whnf))
        refine ⟨(i + 1, ns ++ [u]), ⟨by show i + 1 ≤ _; omega, ?_⟩, by show ps.length - (i + 1) < ps.length - i; omega, ?_⟩
        · show arcsL (ps.take (i + 1)) = _
          rw [take_snoc hp]; exact arcsL_snoc hns ha
        · ((repeat' (first | exact trivial | exact leW_refl _ | refine And.intro ?_ ?_ | exact rfl)))
      · have ha : arcS p = none := by unfold arcS; rw [hu]; exact if_neg hd
        have hne : (!(Lib.decDigits u == p)) = true := by rw [beq_l, decide_eq_false hd]; rfl
        rw [arcsL_none (List.mem_of_getElem? hp) ha]
        (repeat' ((conv => whnf); first | refine NBr.no ?_ | refine NBr.pos (by assumption) ?_ | refine NIdx.tab (fun _ => rfl) hp ?_ | refine NCall.eq (hP) (by rfl) ?_ | refine NCall.eq (hF) (by rfl) ?_ | refine NStep.go (step_noErr rfl rfl (ltN rfl) rfl) ?_ | (refine NBr.dec (fun hc hcP => ?_) (fun hc hcP => ?_) <;> try (exfalso; omega)))); (all_goals (conv => whnf))
        all_goals (refine NEnd.eq ?_; (repeat' (first | exact leW_refl _ | refine And.intro ?_ ?_ | exact rfl)))
    · rw [arcsL_none (List.mem_of_getElem? hp) hn]
      (repeat' ((conv => whnf); first | refine NBr.yes ?_ | refine NIdx.tab (fun _ => rfl) hp ?_ | refine NCall.eq (hP') (by rfl) ?_ | refine NStep.go (step_isErr rfl rfl (ltN rfl) rfl) ?_ | (refine NBr.dec (fun hc hcP => ?_) (fun hc hcP => ?_) <;> try (exfalso; omega)))); (all_goals (conv => whnf))
      all_goals (refine NEnd.eq ?_; (repeat' (first | exact leW_refl _ | refine And.intro ?_ ?_ | exact rfl)))
  · obtain rfl : i = ps.length := by omega
    rw [List.take_length] at hns
    have hR := oidRight_any ns (by omega)
    rw [hns]
    cases hr : rightB ns
    · rw [hr] at hR
      simp only [hr]
      (repeat' ((conv => whnf); first | refine NBr.yes ?_ | refine NCall.eq (hR) (by first | rfl | (simp only [AV.gives, AV.give, uns_arc]; first | done | rfl)) ?_ | (refine NBr.dec (fun hc hcP => ?_) (fun hc hcP => ?_) <;> try (exfalso; omega)))); (all_goals (conv => whnf))
      all_goals (refine NEnd.eq ?_; (repeat' (first | exact leW_refl _ | refine And.intro ?_ ?_ | exact rfl)))
    · rw [hr] at hR
      simp only [hr]
      (repeat' ((conv => whnf); first | refine NBr.no ?_ | refine NCall.eq (hR) (by first | rfl | (simp only [AV.gives, AV.give, uns_arc]; first | done | rfl)) ?_ | (refine NBr.dec (fun hc hcP => ?_) (fun hc hcP => ?_) <;> try (exfalso; omega)))); (all_goals (conv => whnf))
      all_goals (refine NEnd.eq ?_; (repeat' (first | exact trivial | exact leW_refl _ | refine And.intro ?_ ?_ | exact rfl)))
end Go.Proofs.YtblabcopgeobgaaGreatDoor

/- oid.Decode. No condition but sizes that memory bears. -/
namespace Go.Proofs.YtblabcopgeobgaaGreatDoor
open Go.RowKit
set_option maxRecDepth 100000
set_option maxHeartbeats 8000000

structure DSt where
  i : Nat
  ns : List Nat
  b : Bool
  n : Nat
end Go.Proofs.YtblabcopgeobgaaGreatDoor

/- oid.Encode. No condition but sizes that memory bears. -/
namespace Go.Proofs.YtblabcopgeobgaaGreatDoor
open Go.RowKit
set_option maxRecDepth 100000
set_option maxHeartbeats 8000000

theorem b128_len (l : Bool) : ∀ (k n : Nat), n < 128 ^ (k + 1) → (b128 l n).length ≤ k + 1 := by
  intro k
  induction k generalizing l with
  | zero => intro n h; rw [b128_small l (by simpa using h)]; simp
  | succ k ih =>
    intro n h
    by_cases h2 : n < 128
    · rw [b128_small l h2]; simp
    · have := ih false (n / 128) (by rw [Nat.pow_succ] at h; omega)
      rw [b128_big l h2, List.length_append, List.length_singleton]; omega
theorem and127w (n : Nat) (hn : n ≤ 4294967295) : IntKind.u32.wrap ((BitVec.ofInt IntKind.u32.bits (n : Int) &&& BitVec.ofInt IntKind.u32.bits 127).toNat : Int) = ((n % 128 : Nat) : Int) := by
  rw [show (127 : Int) = ((127 : Nat) : Int) from rfl, BitVec.ofInt_natCast, BitVec.ofInt_natCast, BitVec.toNat_and, BitVec.toNat_ofNat, BitVec.toNat_ofNat]
  have hb : 2 ^ IntKind.u32.bits = 4294967296 := by decide
  rw [hb, Nat.mod_eq_of_lt (by omega), Nat.mod_eq_of_lt (by omega)]
  have := Nat.and_two_pow_sub_one_eq_mod n 7
  rw [show 2 ^ 7 - 1 = 127 from rfl] at this
  rw [this, IntWalk.u32_in _ (by omega)]
theorem or128w (m : Nat) (hm : m < 128) : IntKind.u32.wrap ((BitVec.ofInt IntKind.u32.bits (m : Int) ||| BitVec.ofInt IntKind.u32.bits 128).toNat : Int) = ((m + 128 : Nat) : Int) := by
  have h : ∀ x : Fin 128, IntKind.u32.wrap ((BitVec.ofInt IntKind.u32.bits (x.1 : Int) ||| BitVec.ofInt IntKind.u32.bits 128).toNat : Int) = ((x.1 + 128 : Nat) : Int) := by decide +kernel
  exact h ⟨m, hm⟩
theorem shr7w (n : Nat) : (n : Int).fdiv (2 ^ (min (Int.toNat 7) IntKind.u32.bits)) = ((n / 128 : Nat) : Int) := shr_nat (k := 7) n rfl
/-- The octets of a number's upper bits. -/
def hiB (q : Nat) : List UInt8 := if q = 0 then [] else b128 false q
theorem b128_hi (l : Bool) (n : Nat) : b128 l n = hiB (n / 128) ++ [UInt8.ofNat (n % 128 + if l then 0 else 128)] := by
  unfold hiB
  by_cases h : n < 128
  · rw [b128_small l h, if_pos (show n / 128 = 0 by omega)]; rfl
  · rw [b128_big l h, if_neg (show ¬ n / 128 = 0 by omega)]
theorem put_pre (n : Nat) (hn : n ≤ 4294967295) {c : Code} (hc : Tryz.f110.body = some c) (vs : List Value) (hv : argsV [wv n, .ptr 6 0] vs) (W : World) (fp0 z0 : Nat → Nat → Prop) :
    seqVC Tryz.prog ⟨W, fp0, 26, fun _ => none, z0⟩ tab (takeC 3 c) (fun tm bx tk => PreK vs [1] 3 (b128 true n).length 1 5 (bytesL (b128 true n)) ⟨tm, bx, tk⟩) (initV 0 vs) [] [] := by
  have hc' := Option.some.inj hc
  match vs, hv with
  | [v0, v1], hv =>
    obtain ⟨rfl, -⟩ := hv
    subst hc'
    have hL := b128_len true 4 n (by omega)
    have e1 := and127w n hn
    have e2 := shr7w n
    (repeat' ((conv => whnf); first | refine NInt.as (((n % 128 : Nat) : Int) ) ( e1) ?_ | refine NInt.as (((n / 128 : Nat) : Int) ) ( e2) ?_ | (with_reducible refine NInt.oct ?_) | refine NFact.go (by first | decide | omega | (simp only [List.length_cons, List.length_nil]; omega)) ?_)); (all_goals (conv => whnf))
    refine NLoop.go (fun p : Nat × List UInt8 => p.1 ≤ 4294967295 ∧ 0 < p.2.length ∧ hiB p.1 ++ p.2.reverse = b128 true n) (fun p => p.1) (fun p => ⟨[(0, wv p.1), (1, .d (.v v1)), (3, ownB 7 5 p.2)], [], [(7, (p.2.length, 1, 5))]⟩) (n / 128, [UInt8.ofNat (n % 128)]) ⟨by show n / 128 ≤ _; omega, by simp, (by rw [b128_hi]; rfl)⟩ (by ((repeat' (first | exact trivial | exact leW_refl _ | refine And.intro ?_ ?_ | exact rfl)))) ?_
    rintro ⟨q, acc⟩ ⟨hq, ha, he⟩
    simp only [] at hq ha he
    have hal : acc.length ≤ 5 := by
      have := congrArg List.length he
      simp only [List.length_append, List.length_reverse] at this
      omega
    by_cases h0 : q = 0
    · subst h0
      rw [hiB, if_pos rfl, List.nil_append] at he
      (repeat' ((conv => whnf); refine NBr.no ?_)); (all_goals (conv => whnf))
      refine NStep.go (step_rev (l := acc) (tm' := [(1, .d (.v v1)), (3, ownB 7 5 acc.reverse)]) Tryz.laysRev (enters Tryz.func111 (by kernel_rfl) rfl) rfl rfl (ltN rfl) rfl rfl ha (by omega) (.v rfl (.own rfl .nil)) rfl) ?_
      (all_goals (conv => whnf))
      rw [he]
      exact ⟨7, rfl, rfl, ⟨v1, rfl, rfl⟩, trivial⟩
    · have hq2 : hiB q = hiB (q / 128) ++ [UInt8.ofNat (q % 128 + 128)] := by
        conv => lhs; rw [hiB, if_neg h0, b128_hi]
        rfl
      have e3 := and127w q hq
      have e4 := or128w (q % 128) (by omega)
      have e5 := shr7w q
      rw [hq2] at he
      (repeat' ((conv => whnf); first | refine NInt.as (((q % 128 : Nat) : Int) ) ( e3) ?_ | refine NInt.as (((q % 128 + 128 : Nat) : Int) ) ( e4) ?_ | refine NInt.as (((q / 128 : Nat) : Int) ) ( e5) ?_ | (with_reducible refine NInt.oct ?_) | refine NApp.byte (_) ?_ | refine NFact.go (by first | decide | omega | (simp only [List.length_cons, List.length_nil]; omega)) ?_ | (refine NBr.dec (fun hc hcP => ?_) (fun hc hcP => ?_) <;> try (exfalso; omega)))); (all_goals (conv => whnf))
      refine ⟨(q / 128, acc ++ [UInt8.ofNat (q % 128 + 128)]), ⟨by show q / 128 ≤ _; omega, by simp, ?_⟩, by show q / 128 < q; omega, ?_⟩
      · show hiB (q / 128) ++ (acc ++ [UInt8.ofNat (q % 128 + 128)]).reverse = _
        rw [← he]; simp
      · ((repeat' (first | exact trivial | exact leW_refl _ | refine And.intro ?_ ?_ | exact rfl)))
theorem arcsS_len {s : List UInt8} {a : List Nat} (h : arcsS s = some a) : a.length ≤ s.length + 1 := by
  unfold arcsS at h
  split at h
  · rename_i a' h1
    split at h
    · cases h
      rw [arcsL_len h1]; exact dots_len s
    · cases h
  · cases h
theorem flat128_len : ∀ (l : List Nat), (∀ n ∈ l, n ≤ 4294967295) → (l.flatMap (b128 true)).length ≤ 5 * l.length
  | [], _ => by simp
  | n :: r, h => by
    have h1 := b128_len true 4 n (by have := h n (by simp); omega)
    have h2 := flat128_len r (fun m hm => h m (by simp [hm]))
    rw [List.flatMap_cons, List.length_append, List.length_cons]; omega
theorem oidEnc_none (s : List UInt8) (hs : s.length ≤ 1000000) (h : arcsS s = none) : ACalls Tryz.prog 78 [sx s] (fun r => r = .tup [.d (bytesD true []), iv 8]) := by
  have hA := oidArcs_any s hs
  unfold arcsA at hA
  rw [h] at hA
  refine acalls_vc 40 _ tabOk mixed Tryz.func78 rfl (by kernel_rfl) rfl rfl rfl rfl fun W0 fp0 z0 => ?_
  (repeat' ((conv => whnf); first | refine NBr.yes ?_ | refine NCall.eq (hA) (by rfl) ?_)); (all_goals (conv => whnf))
  all_goals (refine NEnd.eq ?_; (repeat' (first | exact trivial | exact leW_refl _ | refine And.intro ?_ ?_ | exact rfl)))
theorem oidEnc_some (s : List UInt8) (hs : s.length ≤ 1000000) {a : List Nat} (h : arcsS s = some a) : ACalls Tryz.prog 78 [sx s] (fun r => r = .tup [.d (bytesD true (encO a)), iv 0]) := by
  have hA := oidArcs_any s hs
  unfold arcsA at hA
  rw [h] at hA
  obtain ⟨k1, k2, k3⟩ := arcsS_some h
  obtain ⟨x, y, r, rfl, x2, xy, y2⟩ := rightB_ne k1
  have h0 : (x :: y :: r)[0]? = some x := rfl
  have h1 : (x :: y :: r)[1]? = some y := rfl
  have hxy : 40 * x + y ≤ 4294967295 := by
    by_cases hx : x < 2
    · have := xy hx; omega
    · omega
  refine acalls_vc 40 _ tabOk mixed Tryz.func78 rfl (by kernel_rfl) rfl rfl rfl rfl fun W0 fp0 z0 => ?_
  have e1 : ∀ z : Int, z = ((40 * x + y : Nat) : Int) → IntKind.u32.wrap z = ((40 * x + y : Nat) : Int) := fun z hz => by rw [hz, IntWalk.u32_in _ (by omega)]
  have hdr : ((x :: y :: r).drop 2).take ((x :: y :: r).length - 2) = r := by simp
  have hL := b128_len true 4 (40 * x + y) (by omega)
  have hal := arcsS_len h
  simp only [List.length_cons] at hal
  (repeat' ((conv => whnf); first | refine NBr.no ?_ | refine NCall.eq (hA) (by rfl) ?_ | refine NIdx.tab (fun _ => rfl) h0 ?_ | refine NIdx.tab (fun _ => rfl) h1 ?_ | refine NInt.as (((40 * x + y : Nat) : Int) ) ( e1 _ (by omega)) ?_ | (with_reducible refine NInt.u32 ?_) | refine NFact.go ⟨by decide +kernel, by kernel_rfl⟩ ?_)); (all_goals (conv => whnf))
  refine nstep_preC 3 3 200 (b128 true (40 * x + y)).length 1 5 (bytesL (b128 true (40 * x + y))) [1] 100 26 #[] tabOk mixed rfl rfl rfl rfl Tryz.func110 rfl (by kernel_rfl) rfl rfl rfl rfl rfl (fun vs hv W fp0 z0 => put_pre (40 * x + y) hxy rfl vs hv W fp0 z0) (fun gh => ?_)
  (repeat' ((conv => whnf); first | refine NSl.tab (fun _ => rfl) 2 (x :: y :: r).length r hdr ?_ | (with_reducible refine NApp.bytes0 ?_))); (all_goals (conv => whnf))
  refine NLoop.go (fun i : Nat => i ≤ r.length) (fun i => r.length - i) (fun i => ⟨[(6, .ptr 6 0), (7, .cl 110 [] [.ptr 6 0]), (29, .d (arcD true r)), (30, iv r.length), (31, iv i)], [(6, [ownB 125 5 (b128 true (40 * x + y) ++ (r.take i).flatMap (b128 true))])], [(125, ((b128 true (40 * x + y) ++ (r.take i).flatMap (b128 true)).length, 1, 5))]⟩) 0 (by simp) (by rw [List.take_zero, List.flatMap_nil, List.append_nil]; ((repeat' (first | exact trivial | exact leW_refl _ | refine And.intro ?_ ?_ | exact rfl)))) ?_
  intro i hi
  by_cases hik : i < r.length
  · obtain ⟨m, hm⟩ : ∃ n, r[i]? = some n := ⟨_, List.getElem?_eq_getElem hik⟩
    have hmb := k2 m (by simp [List.mem_of_getElem? hm])
    have hLm := b128_len true 4 m (by omega)
    have hLf := flat128_len (r.take i) (fun n hn => k2 n (by simp [List.mem_of_mem_take hn]))
    rw [List.length_take] at hLf
    have hLa : (b128 true (40 * x + y) ++ (r.take i).flatMap (b128 true)).length ≤ 6000000 := by rw [List.length_append]; omega
    have hsn : b128 true (40 * x + y) ++ (r.take (i + 1)).flatMap (b128 true) = b128 true (40 * x + y) ++ (r.take i).flatMap (b128 true) ++ b128 true m := by
      rw [take_snoc hm, List.flatMap_append, List.append_assoc]; simp
    (repeat' ((conv => whnf); first | refine NIdx.tab (fun _ => rfl) hm ?_ | (refine NBr.dec (fun hc hcP => ?_) (fun hc hcP => ?_) <;> try (exfalso; omega)))); (all_goals (conv => whnf))
    refine nstep_preC 3 3 200 (b128 true m).length 1 5 (bytesL (b128 true m)) [1] 100 26 #[] tabOk mixed rfl rfl rfl rfl Tryz.func110 rfl (by kernel_rfl) rfl rfl rfl rfl rfl (fun vs hv W fp0 z0 => put_pre m hmb rfl vs hv W fp0 z0) (fun gh => ?_)
    (repeat' ((conv => whnf); first | (with_reducible refine NInt.i64 ?_) | (with_reducible refine NApp.bytes ?_))); (all_goals (conv => whnf))
    refine ⟨i + 1, by omega, by omega, ?_⟩
    rw [hsn]
    ((repeat' (first | exact trivial | exact leW_refl _ | refine And.intro ?_ ?_ | exact rfl)))
  · obtain rfl : i = r.length := by omega
    rw [List.take_length]
    (repeat' ((conv => whnf); (refine NBr.dec (fun hc hcP => ?_) (fun hc hcP => ?_) <;> try (exfalso; omega)))); (all_goals (conv => whnf))
    all_goals (refine NEnd.eq ?_; (repeat' (first | exact trivial | exact leW_refl _ | refine And.intro ?_ ?_ | exact rfl)))
    all_goals rfl
theorem oidEnc_any (s : List UInt8) (hs : s.length ≤ 1000000) : ACalls Tryz.prog 78 [sx s] (fun r => r = .tup [.d (bytesD true (oidE s)), iv (oidC s)]) := by
  unfold oidE oidC
  cases h : arcsS s with
  | some a => exact oidEnc_some s hs h
  | none => exact oidEnc_none s hs h
end Go.Proofs.YtblabcopgeobgaaGreatDoor

/- The reference's object identifiers: digits, number, Right, Arcs, Valid, Text, base, Encode. No condition but sizes that memory bears. -/
namespace Go.Proofs.YtblabcopgeobgaaGreatDoor
open Go.RowKit
set_option maxRecDepth 100000
set_option maxHeartbeats 8000000

theorem b128_len0 (l : Bool) : ∀ (k n : Nat), n < 128 ^ (k + 1) → (b128 l n).length ≤ k + 1 := by
  intro k
  induction k generalizing l with
  | zero => intro n h; rw [b128_small l (by simpa using h)]; simp
  | succ k ih =>
    intro n h
    by_cases h2 : n < 128
    · rw [b128_small l h2]; simp
    · have := ih false (n / 128) (by rw [Nat.pow_succ] at h; omega)
      rw [b128_big l h2, List.length_append, List.length_singleton]; omega
theorem flat128_len0 : ∀ (l : List Nat), (∀ n ∈ l, n ≤ 4294967295) → (l.flatMap (b128 true)).length ≤ 5 * l.length
  | [], _ => by simp
  | n :: r, h => by
    have h1 := b128_len0 true 4 n (by have := h n (by simp); omega)
    have h2 := flat128_len0 r (fun m hm => h m (by simp [hm]))
    rw [List.flatMap_cons, List.length_append, List.length_cons]; omega
theorem arcsS_len0 {s : List UInt8} {a : List Nat} (h : arcsS s = some a) : a.length ≤ s.length + 1 := by
  unfold arcsS at h
  split at h
  · rename_i a' h1
    split at h
    · cases h
      rw [arcsL_len h1]; exact dots_len s
    · cases h
  · cases h
end Go.Proofs.YtblabcopgeobgaaGreatDoor

/- The reference's object identifiers: Decode; Object, ReadObject. No condition but sizes that memory bears. -/
namespace Go.Proofs.YtblabcopgeobgaaGreatDoor
open Go.RowKit
set_option maxRecDepth 100000
set_option maxHeartbeats 8000000

theorem bytesEq_any (f : Bool) (g : Bool) (a b : List UInt8) (ha : a.length ≤ 1000000000) (hb : b.length ≤ 1000000000) : ACalls Tryz.prog 15 [.d (bytesD f a), .d (bytesD g b)] (fun r => r = bv (a == b)) := by
  refine acalls_vc 10 _ tabOk mixed Tryz.func15 rfl (by kernel_rfl) rfl rfl rfl rfl fun W0 fp0 z0 => ?_
  (repeat' ((conv => whnf); (with_reducible refine NStr.go ?_))); (all_goals (conv => whnf))
  all_goals (refine NEnd.eq ?_; (repeat' (first | exact leW_refl _ | refine And.intro ?_ ?_ | exact rfl)))
end Go.Proofs.YtblabcopgeobgaaGreatDoor

/- Trees of elements as data; tree.read. No condition but sizes that memory bears. -/
namespace Go.Proofs.YtblabcopgeobgaaGreatDoor
open Go.RowKit

/-- A tree: where its element starts and ends, class, number, constructed, contents, the trees in it. -/
inductive S where
  | mk (at' stop c n : Nat) (k : Bool) (b : List UInt8) (ks : List S)
def S.stop : S → Nat
  | .mk _ stop _ _ _ _ _ => stop
mutual
/-- A node: five cells. -/
def nodeC (t : Bool) : S → List D
  | .mk _ _ c n k b ks => [.v (.int .i64 c), .v (.int .i64 n), .v (.bool k), bytesD t b, .sl t ks.length 5 (nodesC t ks)]
def nodesC (t : Bool) : List S → List D
  | [] => []
  | s :: r => nodeC t s ++ nodesC t r
end
mutual
/-- A spot: eight cells. -/
def spotC (t : Bool) : S → List D
  | .mk a e c n k b ks => [.v (.int .i64 a), .v (.int .i64 e), .v (.int .i64 c), .v (.int .i64 n), .v (.bool k), bytesD t b, .sl t ks.length 5 (nodesC t ks), .sl t ks.length 8 (spotsC t ks)]
def spotsC (t : Bool) : List S → List D
  | [] => []
  | s :: r => spotC t s ++ spotsC t r
end
theorem nodesC_eq (t : Bool) (l : List S) : nodesC t l = l.flatMap (nodeC t) := by
  induction l with
  | nil => rw [nodesC]; rfl
  | cons s r ih => rw [nodesC, ih, List.flatMap_cons]
theorem spotsC_eq (t : Bool) (l : List S) : spotsC t l = l.flatMap (spotC t) := by
  induction l with
  | nil => rw [spotsC]; rfl
  | cons s r ih => rw [spotsC, ih, List.flatMap_cons]
/-- Trees, or an error's code and place. -/
structure SR where
  l : List S
  code : Nat
  off : Nat
def SR.bad (code off : Nat) : SR := ⟨[], code, off⟩
/-- A tree ahead of others. -/
def joinS (x : S) (r : SR) : SR := if r.code = 0 then ⟨x :: r.l, 0, 0⟩ else ⟨[], r.code, r.off⟩
theorem joinS_ok {x : S} {r : SR} (h : r.code = 0) : joinS x r = ⟨x :: r.l, 0, 0⟩ := if_pos h
theorem joinS_bad {x : S} {r : SR} (h : r.code ≠ 0) : joinS x r = ⟨[], r.code, r.off⟩ := if_neg h
/-- The trees between two places. -/
def kidsF (rd : Nat → SR) (en : Nat) : Nat → Nat → SR
  | 0, _ => ⟨[], 0, 0⟩
  | f + 1, at' => if at' < en then
      match rd at' with
      | ⟨s :: _, 0, _⟩ => joinS s (kidsF rd en f s.stop)
      | r => ⟨[], r.code, r.off⟩
    else ⟨[], 0, 0⟩
theorem kidsF_yes {rd : Nat → SR} {en f at' : Nat} {s : S} (h : at' < en) (h1 : rd at' = ⟨[s], 0, 0⟩) : kidsF rd en (f + 1) at' = joinS s (kidsF rd en f s.stop) := by
  rw [kidsF, if_pos h, h1]; rfl
theorem kidsF_no {rd : Nat → SR} {en f at' : Nat} (h : at' < en) (h1 : (rd at').code ≠ 0) : kidsF rd en (f + 1) at' = ⟨[], (rd at').code, (rd at').off⟩ := by
  rw [kidsF, if_pos h]
  generalize rd at' = r at *
  obtain ⟨l, c, o⟩ := r
  cases c with
  | zero => exact absurd rfl h1
  | succ c => cases l <;> rfl
theorem kidsF_out {rd : Nat → SR} {en f at' : Nat} (h : ¬ at' < en) : kidsF rd en f at' = ⟨[], 0, 0⟩ := by
  cases f with
  | zero => rfl
  | succ f => rw [kidsF, if_neg h]
/-- The tree at a place, its header being known. -/
def readH (b : List UInt8) (kids : Nat → Nat → SR) (at' en : Nat) (h : Hd) : SR :=
  if h.code ≠ 0 then .bad h.code (at' + h.off)
  else if en - at' < h.size + h.len then .bad 1 en
  else if h.k = false then ⟨[.mk at' (at' + h.size + h.len) h.c h.n false ((b.drop (at' + h.size)).take h.len) []], 0, 0⟩
  else if (kids (at' + h.size) (at' + h.size + h.len)).code ≠ 0 then .bad (kids (at' + h.size) (at' + h.size + h.len)).code (kids (at' + h.size) (at' + h.size + h.len)).off
  else ⟨[.mk at' (at' + h.size + h.len) h.c h.n true [] (kids (at' + h.size) (at' + h.size + h.len)).l], 0, 0⟩
def kidsS (rd : Nat → Nat → SR) (at' en : Nat) : SR := kidsF (fun p => rd p en) en (en - at') at'
/-- The tree at a place. -/
def readS (b : List UInt8) : Nat → Nat → Nat → SR
  | 0, at', _ => .bad 5 at'
  | d + 1, at', en => readH b (kidsS (readS b d)) at' en (rhS ((b.drop at').take (en - at')))
/-- What a reader promises. -/
def Rds (rd : Nat → SR) (en : Nat) : Prop := ∀ p, p ≤ en → ((rd p).code = 0 → ∃ s : S, rd p = ⟨[s], 0, 0⟩ ∧ p + 2 ≤ s.stop ∧ s.stop ≤ en) ∧ ((rd p).code ≠ 0 → (rd p).off ≤ en ∧ (rd p).l = [])
theorem kidsF_more {rd : Nat → SR} {en : Nat} (hr : Rds rd en) : ∀ (f g at' : Nat), en - at' ≤ f → f ≤ g → kidsF rd en g at' = kidsF rd en f at' := by
  intro f
  induction f with
  | zero =>
    intro g at' h1 h2
    rw [kidsF_out (by omega), kidsF_out (by omega)]
  | succ f ih =>
    intro g at' h1 h2
    obtain ⟨g, rfl⟩ : ∃ j, g = j + 1 := ⟨g - 1, by omega⟩
    by_cases h3 : at' < en
    · by_cases h4 : (rd at').code ≠ 0
      · rw [kidsF_no h3 h4, kidsF_no h3 h4]
      · obtain ⟨s, e1, e2, e3⟩ := (hr at' (by omega)).1 (Decidable.not_not.1 h4)
        rw [kidsF_yes h3 e1, kidsF_yes h3 e1, ih g _ (by omega) (by omega)]
    · rw [kidsF_out h3, kidsF_out h3]
theorem kidsS_end {rd : Nat → Nat → SR} {at' en : Nat} (h : ¬ at' < en) : kidsS rd at' en = ⟨[], 0, 0⟩ := kidsF_out h
theorem kidsS_bad {rd : Nat → Nat → SR} {at' en : Nat} (h : at' < en) (h1 : (rd at' en).code ≠ 0) : kidsS rd at' en = ⟨[], (rd at' en).code, (rd at' en).off⟩ := by
  obtain ⟨f, hf⟩ : ∃ f, en - at' = f + 1 := ⟨en - at' - 1, by omega⟩
  rw [kidsS, hf]
  exact kidsF_no (rd := fun p => rd p en) h h1
theorem kidsS_step {rd : Nat → Nat → SR} {at' en : Nat} {s : S} (hr : Rds (fun p => rd p en) en) (h : at' < en) (h1 : rd at' en = ⟨[s], 0, 0⟩) (h2 : at' < s.stop) : kidsS rd at' en = joinS s (kidsS rd s.stop en) := by
  obtain ⟨f, hf⟩ : ∃ f, en - at' = f + 1 := ⟨en - at' - 1, by omega⟩
  have e : kidsF (fun p => rd p en) en f s.stop = kidsS rd s.stop en := kidsF_more hr _ _ _ (Nat.le_refl _) (by omega)
  rw [kidsS, hf, kidsF_yes (rd := fun p => rd p en) h h1, e]
theorem kidsF_ok {rd : Nat → SR} {en : Nat} (hr : Rds rd en) : ∀ (f at' : Nat), ((kidsF rd en f at').code = 0 → kidsF rd en f at' = ⟨(kidsF rd en f at').l, 0, 0⟩) ∧ (kidsF rd en f at').off ≤ en := by
  intro f
  induction f with
  | zero => intro at'; exact ⟨fun _ => rfl, Nat.zero_le _⟩
  | succ f ih =>
    intro at'
    by_cases h3 : at' < en
    · by_cases h4 : (rd at').code ≠ 0
      · rw [kidsF_no h3 h4]
        exact ⟨fun h => absurd h h4, ((hr at' (by omega)).2 h4).1⟩
      · obtain ⟨s, e1, e2, e3⟩ := (hr at' (by omega)).1 (Decidable.not_not.1 h4)
        rw [kidsF_yes h3 e1]
        by_cases h5 : (kidsF rd en f s.stop).code = 0
        · rw [joinS_ok h5]
          exact ⟨fun _ => rfl, Nat.zero_le _⟩
        · rw [joinS_bad h5]
          exact ⟨fun h => absurd h h5, (ih s.stop).2⟩
    · rw [kidsF_out h3]
      exact ⟨fun _ => rfl, Nat.zero_le _⟩
theorem readS_rds (b : List UInt8) : ∀ (d en : Nat), en ≤ b.length → Rds (fun p => readS b d p en) en := by
  intro d
  induction d with
  | zero =>
    intro en hen p hp
    exact ⟨fun h => by simp [readS, SR.bad] at h, fun _ => ⟨by simp [readS, SR.bad]; exact hp, rfl⟩⟩
  | succ d ih =>
    intro en hen p hp
    have hB := rhS_bounds ((b.drop p).take (en - p))
    have hlen : ((b.drop p).take (en - p)).length = en - p := by simp; omega
    rw [hlen] at hB
    show ((readS b (d + 1) p en).code = 0 → _) ∧ _
    simp only [readS]
    generalize rhS ((b.drop p).take (en - p)) = h at hB ⊢
    obtain ⟨c1, c2, c3, c4, c5, c6, c7⟩ := hB
    unfold readH
    by_cases k1 : h.code ≠ 0
    · rw [if_pos k1]
      exact ⟨fun h' => absurd h' k1, fun _ => ⟨by simp only [SR.bad]; omega, rfl⟩⟩
    rw [if_neg k1]
    by_cases k2 : en - p < h.size + h.len
    · rw [if_pos k2]
      exact ⟨fun h' => by simp [SR.bad] at h', fun _ => ⟨by simp [SR.bad], rfl⟩⟩
    rw [if_neg k2]
    have c1' := c1 (Decidable.not_not.1 k1)
    by_cases k3 : h.k = false
    · rw [if_pos k3]
      exact ⟨fun _ => ⟨_, rfl, by simp only [S.stop]; omega, by simp only [S.stop]; omega⟩, fun h' => by simp at h'⟩
    rw [if_neg k3]
    have hR := ih (p + h.size + h.len) (by omega)
    have hK := kidsF_ok hR (p + h.size + h.len - (p + h.size)) (p + h.size)
    by_cases k4 : (kidsS (readS b d) (p + h.size) (p + h.size + h.len)).code ≠ 0
    · rw [if_pos k4]
      have h9 : (kidsS (readS b d) (p + h.size) (p + h.size + h.len)).off ≤ p + h.size + h.len := hK.2
      exact ⟨fun h' => absurd h' k4, fun _ => ⟨by simp only [SR.bad]; omega, rfl⟩⟩
    · rw [if_neg k4]
      exact ⟨fun _ => ⟨_, rfl, by simp only [S.stop]; omega, by simp only [S.stop]; omega⟩, fun h' => by simp at h'⟩

/-- What read gives where there is no tree. -/
def spotZ : AV := .agg [iv 0, iv 0, iv 0, iv 0, bv false, nilA, nilA, nilA]
def spotA (x : S) : AV := .agg ((spotC true x).map AV.d)
def trA (r : SR) : AV := match r with
  | ⟨x :: _, 0, _⟩ => .tup [spotA x, erA 0 0]
  | r => .tup [spotZ, erA r.code r.off]
theorem trA_ok (x : S) : trA ⟨[x], 0, 0⟩ = .tup [spotA x, erA 0 0] := rfl
theorem trA_bad {r : SR} (h : r.code ≠ 0) : trA r = .tup [spotZ, erA r.code r.off] := by
  obtain ⟨l, c, o⟩ := r
  cases c with
  | zero => exact absurd rfl h
  | succ c => cases l <;> rfl

set_option maxRecDepth 100000 in
set_option maxHeartbeats 8000000 in
theorem rdFail_any (c o : Int) : ACalls Tryz.prog 205 [iv c, iv o] (fun r => r = .tup [spotZ, erA c o]) := by
  refine acalls_vc 10 _ tabOk mixed Tryz.func205 rfl (by kernel_rfl) rfl rfl rfl rfl fun W0 fp0 z0 => ?_
  (all_goals (conv => whnf))
  (refine NEnd.eq ?_; (repeat' (first | exact leW_refl _ | refine And.intro ?_ ?_ | exact rfl)))
end Go.Proofs.YtblabcopgeobgaaGreatDoor

/- tree.read: the trees in a constructed element. No condition but sizes that memory bears. -/
namespace Go.Proofs.YtblabcopgeobgaaGreatDoor
open Go.RowKit

abbrev nodeT : S → List D := nodeC true
abbrev spotT : S → List D := spotC true
set_option maxRecDepth 100000 in
set_option maxHeartbeats 8000000 in
theorem read_kids (b : List UInt8) (hb : b.length ≤ 1000000000) (d at' en cc nn ll sz off : Nat) (hd : d < 1000) (h1 : at' ≤ en) (h2 : en ≤ b.length) (hsz : 2 ≤ sz) (h3 : sz + ll ≤ en - at')
    (hR : ACalls Tryz.prog 92 [.d (bytesD false ((b.drop at').take (en - at')))] (fun r => r = .tup [.agg [iv cc, iv nn, bv true, iv ll, iv sz], erA 0 off]))
    (ih : ∀ (p q : Nat), p ≤ q → q ≤ b.length → ACalls Tryz.prog 178 [.d (bytesD false b), iv p, iv q, iv d] (fun r => r = trA (readS b d p q))) :
    ACalls Tryz.prog 178 [.d (bytesD false b), iv at', iv en, iv (d + 1 : Nat)] (fun r => r = trA (readH b (kidsS (readS b d)) at' en ⟨cc, nn, true, ll, sz, 0, off⟩)) := by
  have hRd := readS_rds b d (at' + sz + ll) (by omega)
  have hF : (kidsS (readS b d) (at' + sz) (at' + sz + ll)).code ≠ 0 → readH b (kidsS (readS b d)) at' en ⟨cc, nn, true, ll, sz, 0, off⟩ = .bad (kidsS (readS b d) (at' + sz) (at' + sz + ll)).code (kidsS (readS b d) (at' + sz) (at' + sz + ll)).off := fun h => by
    unfold readH
    rw [if_neg (fun x => x rfl), if_neg (show ¬ en - at' < sz + ll by omega), if_neg (fun x => by cases x), if_pos h]
  have hO : (kidsS (readS b d) (at' + sz) (at' + sz + ll)).code = 0 → readH b (kidsS (readS b d)) at' en ⟨cc, nn, true, ll, sz, 0, off⟩ = ⟨[.mk at' (at' + sz + ll) cc nn true [] (kidsS (readS b d) (at' + sz) (at' + sz + ll)).l], 0, 0⟩ := fun h => by
    unfold readH
    rw [if_neg (fun x => x rfl), if_neg (show ¬ en - at' < sz + ll by omega), if_neg (fun x => by cases x), if_neg (fun x => x h)]
  generalize hK : kidsS (readS b d) (at' + sz) (at' + sz + ll) = K0 at hF hO
  refine acalls_vc 125 _ tabOk mixed Tryz.func178 rfl (by kernel_rfl) rfl rfl rfl rfl fun W0 fp0 z0 => ?_
  (repeat' ((conv => whnf); first | refine NBr.no ?_ | refine NCall.eq (hR) (by first | rfl | (simp only [AV.gives, AV.give, D.un, uns_bytesL]; first | done | rfl)) ?_ | refine NSl.slice (at') (en) ?_ | (with_reducible refine NInt.i64 ?_) | (refine NBr.dec (fun hc hcP => ?_) (fun hc hcP => ?_) <;> try (exfalso; omega)))); (all_goals (conv => whnf))
  refine NLoop.goA [.b 14 6 1000 5 80, .b 14 7 1001 8 212] (fun z : Nat × List S => z.1 ≤ at' + sz + ll ∧ z.2.length ≤ z.1 ∧ (kidsS (readS b d) z.1 (at' + sz + ll)).code = K0.code ∧ (K0.code ≠ 0 → (kidsS (readS b d) z.1 (at' + sz + ll)).off = K0.off) ∧ (K0.code = 0 → K0.l = z.2 ++ (kidsS (readS b d) z.1 (at' + sz + ll)).l)) (fun z => at' + sz + ll - z.1)
    (fun z => ⟨[(0, .d (bytesD false b)), (3, iv (d + 1 : Nat)), (8, .ptr 8 0), (9, .ptr 9 0), (13, iv z.1), (14, .ptr 14 0)], [(8, [iv 0, iv 0, iv 0, iv 0, bv false, nilA, nilA, nilA]), (9, [iv 0, iv 0]), (14, [iv at', iv (at' + sz + ll : Nat), iv cc, iv nn, bv true, nilA, ownT 1000 5 80 nodeT z.2, ownT 1001 8 212 spotT z.2])], [(1000, (z.2.length, 5, 80)), (1001, (z.2.length, 8, 212))]⟩) (at' + sz, []) ⟨by simp only []; omega, by simp, by rw [hK], fun _ => by rw [hK], fun _ => by rw [hK]; rfl⟩ (by ((repeat' (first | exact trivial | exact leW_refl _ | refine And.intro ?_ ?_ | exact rfl)))) ?_
  · rintro ⟨p, acc⟩ ⟨hp, hacc, e1, e2, e3⟩
    simp only [] at hp hacc e1 e2 e3
    by_cases h5 : p < at' + sz + ll
    · have hrec := ih p (at' + sz + ll) (by omega) (by omega)
      by_cases h6 : (readS b d p (at' + sz + ll)).code ≠ 0
      · rw [kidsS_bad h5 h6] at e1 e2
        have h7 : K0.code ≠ 0 := by rw [← e1]; exact h6
        rw [trA_bad h6, show (readS b d p (at' + sz + ll)).code = K0.code from e1, show (readS b d p (at' + sz + ll)).off = K0.off from e2 h7] at hrec
        rw [hF h7, trA_bad (show (SR.bad K0.code K0.off).code ≠ 0 from h7)]
        (repeat' ((conv => whnf); first | refine NCall.eq (hrec) (by first | rfl | (simp only [AV.gives, AV.give, D.un, un_bytesD]; first | done | rfl)) ?_ | refine NInt.as (((d : Nat) : Int) ) ( (by rw [IntWalk.i64_in _ (by omega)]; omega)) ?_ | refine NFact.go ⟨by decide +kernel, by kernel_rfl⟩ ?_ | (refine NBr.dec (fun hc hcP => ?_) (fun hc hcP => ?_) <;> try (exfalso; omega)) | (refine NBr.bne (fun hc hcP => ?_) (fun hc hcP => ?_) <;> try (exfalso; omega)))); (all_goals (conv => whnf))
        all_goals (refine NEnd.eq ?_; (repeat' (first | exact leW_refl _ | refine And.intro ?_ ?_ | exact rfl)))
      · obtain ⟨s, r1, r2, r3⟩ := (hRd p (by omega)).1 (Decidable.not_not.1 h6)
        obtain ⟨a, q, c, n, k, b', ks⟩ := s
        have r1' : readS b d p (at' + sz + ll) = ⟨[S.mk a q c n k b' ks], 0, 0⟩ := r1
        have r2' : p + 2 ≤ q := r2
        have r3' : q ≤ at' + sz + ll := r3
        rw [r1', trA_ok] at hrec
        have hrec' : ACalls Tryz.prog 178 [.d (bytesD false b), iv p, iv (at' + sz + ll : Nat), iv d] (fun r => r = .tup [.agg [iv a, iv q, iv c, iv n, bv k, .d (bytesD true b'), .d (.sl true ks.length 5 (nodesC true ks)), .d (.sl true ks.length 8 (spotsC true ks))], erA 0 0]) := hrec
        have hst := kidsS_step hRd h5 r1' (show p < q by omega)
        have hst' : kidsS (readS b d) p (at' + sz + ll) = joinS (S.mk a q c n k b' ks) (kidsS (readS b d) q (at' + sz + ll)) := hst
        have e1' : (kidsS (readS b d) q (at' + sz + ll)).code = K0.code := by
          rw [← e1, hst']
          by_cases h9 : (kidsS (readS b d) q (at' + sz + ll)).code = 0
          · rw [joinS_ok h9]; exact h9
          · rw [joinS_bad h9]
        have e2' : K0.code ≠ 0 → (kidsS (readS b d) q (at' + sz + ll)).off = K0.off := fun h => by
          rw [← e2 h, hst', joinS_bad (by rw [e1']; exact h)]
        have e3' : K0.code = 0 → K0.l = (acc ++ [S.mk a q c n k b' ks]) ++ (kidsS (readS b d) q (at' + sz + ll)).l := fun h => by
          rw [e3 h, hst', joinS_ok (by rw [e1']; exact h)]; simp
        clear hst hst' r1 r2 r3 hrec e1 e2 e3
        (repeat' ((conv => whnf); first | refine NBr.no ?_ | refine NCall.eq (hrec') (by first | rfl | (simp only [AV.gives, AV.give, D.un, un_bytesD]; first | done | rfl)) ?_ | refine NInt.as (((d : Nat) : Int) ) ( (by rw [IntWalk.i64_in _ (by omega)]; omega)) ?_ | refine NApp.one nodeT (S.mk a q c n k b' ks) ?_ | refine NApp.one spotT (S.mk a q c n k b' ks) ?_ | (refine NBr.dec (fun hc hcP => ?_) (fun hc hcP => ?_) <;> try (exfalso; omega)))); (all_goals (conv => whnf))
        refine ⟨(q, acc ++ [S.mk a q c n k b' ks]), ⟨by simp only []; omega, by simp only [List.length_append, List.length_cons, List.length_nil] at *; omega, e1', e2', e3'⟩, by simp only []; omega, ?_⟩
        ((repeat' (first | exact trivial | exact leW_refl _ | refine And.intro ?_ ?_ | exact rfl)))
    · rw [kidsS_end h5] at e1 e3
      have h7 : K0.code = 0 := e1.symm
      have h8 := e3 h7
      rw [hO h7, h8, List.append_nil]
      (repeat' ((conv => whnf); (refine NBr.dec (fun hc hcP => ?_) (fun hc hcP => ?_) <;> try (exfalso; omega)))); (all_goals (conv => whnf))
      all_goals (refine NEnd.eq ?_; (repeat' (first | exact trivial | exact leW_refl _ | refine And.intro ?_ ?_ | exact rfl)); (all_goals (conv => whnf)))
      all_goals first | exact (nodesC_eq true acc).symm | exact (spotsC_eq true acc).symm
end Go.Proofs.YtblabcopgeobgaaGreatDoor

/- tree.read, whole. No condition but sizes that memory bears. -/
namespace Go.Proofs.YtblabcopgeobgaaGreatDoor
open Go.RowKit

set_option maxRecDepth 100000 in
set_option maxHeartbeats 8000000 in
theorem read_any (b : List UInt8) (hb : b.length ≤ 1000000000) : ∀ (d at' en : Nat), d ≤ 1000 → at' ≤ en → en ≤ b.length → ACalls Tryz.prog 178 [.d (bytesD false b), iv at', iv en, iv d] (fun r => r = trA (readS b d at' en)) := by
  intro d
  induction d with
  | zero =>
    intro at' en hd h1 h2
    refine acalls_vc 125 _ tabOk mixed Tryz.func178 rfl (by kernel_rfl) rfl rfl rfl rfl fun W0 fp0 z0 => ?_
    (repeat' ((conv => whnf); first | refine NBr.yes ?_ | refine NCall.eq (rdFail_any 5 at') (by rfl) ?_)); (all_goals (conv => whnf))
    all_goals (refine NEnd.eq ?_; (repeat' (first | exact leW_refl _ | refine And.intro ?_ ?_ | exact rfl)))
  | succ d ih =>
    intro at' en hd h1 h2
    have hlen : ((b.drop at').take (en - at')).length = en - at' := by simp; omega
    have hR := readHead_any ((b.drop at').take (en - at')) (by omega)
    have hB := rhS_bounds ((b.drop at').take (en - at'))
    have hRd := readS_rds b d
    rw [hlen] at hB
    rw [readS]
    generalize hh : rhS ((b.drop at').take (en - at')) = h at hR hB ⊢
    obtain ⟨c1, c2, c3, c4, c5, c6, c7⟩ := hB
    by_cases k1 : h.code = 0
    · have c1' := c1 k1
      by_cases k2 : en - at' < h.size + h.len
      · rw [readH, if_neg (by omega), if_pos k2]
        refine acalls_vc 125 _ tabOk mixed Tryz.func178 rfl (by kernel_rfl) rfl rfl rfl rfl fun W0 fp0 z0 => ?_
        (repeat' ((conv => whnf); first | refine NBr.no ?_ | refine NCall.eq (hR) (by first | rfl | (simp only [AV.gives, AV.give, D.un, uns_bytesL]; first | done | rfl)) ?_ | refine NSl.slice (at') (en) ?_ | refine NCall.eq (rdFail_any _ _) (by rfl) ?_ | (with_reducible refine NInt.i64 ?_) | (refine NBr.dec (fun hc hcP => ?_) (fun hc hcP => ?_) <;> try (exfalso; omega)) | (refine NBr.bne (fun hc hcP => ?_) (fun hc hcP => ?_) <;> try (exfalso; omega)))); (all_goals (conv => whnf))
        all_goals (refine NEnd.eq ?_; (repeat' (first | exact leW_refl _ | refine And.intro ?_ ?_ | exact rfl)))
        all_goals rfl
      · obtain ⟨cc, nn, kk, ll, sz, cd, of⟩ := h
        have k2' : ¬ en - at' < sz + ll := k2
        have k1' : ¬ cd ≠ 0 := fun x => x k1
        have k0 : cd = 0 := k1
        have c1a : 2 ≤ sz := c1'.1
        have c1b : sz ≤ en - at' := c1'.2.1
        have c4a : ll ≤ 2147483647 := c4
        have hq : at' + sz + ll - (at' + sz) = ll := by omega
        have hR' : ACalls Tryz.prog 92 [.d (bytesD false ((b.drop at').take (en - at')))] (fun r => r = .tup [.agg [iv cc, iv nn, bv kk, iv ll, iv sz], erA cd of]) := hR
        cases kk with
        | false =>
          have hC := clone_any ((b.drop (at' + sz)).take (at' + sz + ll - (at' + sz))) (by rw [List.length_take]; omega)
          have e : readH b (kidsS (readS b d)) at' en ⟨cc, nn, false, ll, sz, cd, of⟩ = ⟨[.mk at' (at' + sz + ll) cc nn false ((b.drop (at' + sz)).take (at' + sz + ll - (at' + sz))) []], 0, 0⟩ := by
            rw [hq]; unfold readH
            rw [if_neg k1', if_neg k2', if_pos rfl]
          rw [e]
          refine acalls_vc 125 _ tabOk mixed Tryz.func178 rfl (by kernel_rfl) rfl rfl rfl rfl fun W0 fp0 z0 => ?_
          (repeat' ((conv => whnf); first | refine NBr.yes ?_ | refine NBr.no ?_ | refine NCall.eq (hR') (by first | rfl | (simp only [AV.gives, AV.give, D.un, uns_bytesL]; first | done | rfl)) ?_ | refine NSl.slice (at') (en) ?_ | refine NSl.slice (at' + sz) (at' + sz + ll) ?_ | refine NCall.eq (hC) (by first | rfl | (simp only [AV.gives, AV.give, D.un, uns_bytesL]; first | done | rfl)) ?_ | (with_reducible refine NInt.i64 ?_) | (refine NBr.dec (fun hc hcP => ?_) (fun hc hcP => ?_) <;> try (exfalso; omega)) | (refine NBr.bne (fun hc hcP => ?_) (fun hc hcP => ?_) <;> try (exfalso; omega)))); (all_goals (conv => whnf))
          all_goals (refine NEnd.eq ?_; (repeat' (first | exact trivial | exact leW_refl _ | refine And.intro ?_ ?_ | exact rfl)))
          all_goals rfl
        | true =>
          subst k0
          exact read_kids b hb d at' en cc nn ll sz of (by omega) h1 h2 c1a (by omega) hR' (fun p q hp hq' => ih p q (by omega) hp hq')
    · have e : readH b (kidsS (readS b d)) at' en h = .bad h.code (at' + h.off) := by rw [readH, if_pos k1]
      rw [e, trA_bad k1]
      refine acalls_vc 125 _ tabOk mixed Tryz.func178 rfl (by kernel_rfl) rfl rfl rfl rfl fun W0 fp0 z0 => ?_
      (repeat' ((conv => whnf); first | refine NBr.no ?_ | refine NCall.eq (hR) (by first | rfl | (simp only [AV.gives, AV.give, D.un, uns_bytesL]; first | done | rfl)) ?_ | refine NSl.slice (at') (en) ?_ | refine NCall.eq (rdFail_any _ _) (by rfl) ?_ | (with_reducible refine NInt.i64 ?_) | (refine NBr.bne (fun hc hcP => ?_) (fun hc hcP => ?_) <;> try (exfalso; omega)))); (all_goals (conv => whnf))
      all_goals (refine NEnd.eq ?_; (repeat' (first | exact leW_refl _ | refine And.intro ?_ ?_ | exact rfl)))
      all_goals rfl
end Go.Proofs.YtblabcopgeobgaaGreatDoor

/- tree.whole, tree.Parse. No condition but sizes that memory bears. -/
namespace Go.Proofs.YtblabcopgeobgaaGreatDoor
open Go.RowKit
set_option maxRecDepth 100000
set_option maxHeartbeats 8000000

/-- The tree that bytes consist of, or an error's code and place. -/
def wholeR (n : Nat) : SR → SR
  | ⟨s :: _, 0, _⟩ => if s.stop < n then .bad 2 s.stop else ⟨[s], 0, 0⟩
  | r => .bad r.code r.off
def wholeS (b : List UInt8) : SR := wholeR b.length (readS b 16 0 b.length)
theorem wholeR_long {n : Nat} {s : S} (h : s.stop < n) : wholeR n ⟨[s], 0, 0⟩ = .bad 2 s.stop := if_pos h
theorem wholeR_ok {n : Nat} {s : S} (h : ¬ s.stop < n) : wholeR n ⟨[s], 0, 0⟩ = ⟨[s], 0, 0⟩ := if_neg h
theorem wholeR_bad {n c o : Nat} : wholeR n ⟨[], c, o⟩ = .bad c o := by cases c <;> rfl
theorem whole_any (b : List UInt8) (hb : b.length ≤ 1000000000) : ACalls Tryz.prog 155 [.d (bytesD false b)] (fun r => r = trA (wholeS b)) := by
  have hR := read_any b hb 16 0 b.length (by omega) (by omega) (by omega)
  have hF := readS_rds b 16 b.length (by omega) 0 (by omega)
  dsimp only at hF
  unfold wholeS
  generalize readS b 16 0 b.length = r at hR hF
  by_cases h : r.code = 0
  · obtain ⟨s, rfl, h1, h2⟩ := hF.1 h
    obtain ⟨a, q, c, n, k, b', ks⟩ := s
    simp only [S.stop] at h1 h2
    rw [trA_ok] at hR
    have hR' : ACalls Tryz.prog 178 [.d (bytesD false b), iv 0, iv b.length, iv 16] (fun r => r = .tup [.agg [iv a, iv q, iv c, iv n, bv k, .d (bytesD true b'), .d (.sl true ks.length 5 (nodesC true ks)), .d (.sl true ks.length 8 (spotsC true ks))], erA 0 0]) := hR
    by_cases h3 : q < b.length
    · rw [wholeR_long (show (S.mk a q c n k b' ks).stop < b.length from h3)]
      refine acalls_vc 29 _ tabOk mixed Tryz.func155 rfl (by kernel_rfl) rfl rfl rfl rfl fun W0 fp0 z0 => ?_
      (repeat' ((conv => whnf); first | refine NBr.yes ?_ | refine NCall.eq (hR') (by first | rfl | (simp only [AV.gives, AV.give, D.un, un_bytesD]; first | done | rfl)) ?_ | refine NFact.go ⟨by decide +kernel, by kernel_rfl⟩ ?_ | (refine NBr.dec (fun hc hcP => ?_) (fun hc hcP => ?_) <;> try (exfalso; omega)))); (all_goals (conv => whnf))
      all_goals (refine NEnd.eq ?_; (repeat' (first | exact leW_refl _ | refine And.intro ?_ ?_ | exact rfl)))
    · rw [wholeR_ok (show ¬ (S.mk a q c n k b' ks).stop < b.length from h3)]
      refine acalls_vc 29 _ tabOk mixed Tryz.func155 rfl (by kernel_rfl) rfl rfl rfl rfl fun W0 fp0 z0 => ?_
      (repeat' ((conv => whnf); first | refine NBr.yes ?_ | refine NCall.eq (hR') (by first | rfl | (simp only [AV.gives, AV.give, D.un, un_bytesD]; first | done | rfl)) ?_ | refine NFact.go ⟨by decide +kernel, by kernel_rfl⟩ ?_ | (refine NBr.dec (fun hc hcP => ?_) (fun hc hcP => ?_) <;> try (exfalso; omega)))); (all_goals (conv => whnf))
      all_goals (refine NEnd.eq ?_; (repeat' (first | exact leW_refl _ | refine And.intro ?_ ?_ | exact rfl)))
  · rw [trA_bad h] at hR
    obtain ⟨l, c, o⟩ := r
    have hl : l = [] := (hF.2 h).2
    subst hl
    have h' : ¬ c = 0 := h
    have hR' : ACalls Tryz.prog 178 [.d (bytesD false b), iv 0, iv b.length, iv 16] (fun r => r = .tup [spotZ, erA c o]) := hR
    rw [wholeR_bad]
    refine acalls_vc 29 _ tabOk mixed Tryz.func155 rfl (by kernel_rfl) rfl rfl rfl rfl fun W0 fp0 z0 => ?_
    (repeat' ((conv => whnf); first | refine NBr.no ?_ | refine NCall.eq (hR') (by first | rfl | (simp only [AV.gives, AV.give, D.un, un_bytesD]; first | done | rfl)) ?_ | refine NFact.go ⟨by decide +kernel, by kernel_rfl⟩ ?_ | (refine NBr.dec (fun hc hcP => ?_) (fun hc hcP => ?_) <;> try (exfalso; omega)))); (all_goals (conv => whnf))
    all_goals (refine NEnd.eq ?_; (repeat' (first | exact leW_refl _ | refine And.intro ?_ ?_ | exact rfl)))
theorem parse_any (b : List UInt8) (hb : b.length ≤ 1000000000) : ACalls Tryz.prog 131 [.d (bytesD false b)] (fun r => r = .tup [.agg ((match wholeS b with
    | ⟨s :: _, 0, _⟩ => nodeC true s
    | _ => [.v (.int .i64 0), .v (.int .i64 0), .v (.bool false), .v (.slice none 0 0), .v (.slice none 0 0)]).map AV.d), erA (wholeS b).code (wholeS b).off]) := by
  have hR := whole_any b hb
  have hF := readS_rds b 16 b.length (by omega) 0 (by omega)
  dsimp only at hF
  have hW : ((wholeS b).code = 0 → ∃ s, wholeS b = ⟨[s], 0, 0⟩) ∧ ((wholeS b).code ≠ 0 → (wholeS b).l = []) := by
    unfold wholeS
    generalize readS b 16 0 b.length = r at hF
    by_cases h : r.code = 0
    · obtain ⟨s, rfl, h1, h2⟩ := hF.1 h
      by_cases h3 : s.stop < b.length
      · rw [wholeR_long h3]; simp [SR.bad]
      · rw [wholeR_ok h3]; simp
    · obtain ⟨l, c, o⟩ := r
      have hl : l = [] := (hF.2 h).2
      subst hl
      have h' : ¬ c = 0 := h
      rw [wholeR_bad]; simp [SR.bad, h']
  generalize wholeS b = r at hR hW ⊢
  by_cases h : r.code = 0
  · obtain ⟨s, rfl⟩ := hW.1 h
    obtain ⟨a, q, c, n, k, b', ks⟩ := s
    rw [trA_ok] at hR
    have hR' : ACalls Tryz.prog 155 [.d (bytesD false b)] (fun r => r = .tup [.agg [iv a, iv q, iv c, iv n, bv k, .d (bytesD true b'), .d (.sl true ks.length 5 (nodesC true ks)), .d (.sl true ks.length 8 (spotsC true ks))], erA 0 0]) := hR
    refine acalls_vc 14 _ tabOk mixed Tryz.func131 rfl (by kernel_rfl) rfl rfl rfl rfl fun W0 fp0 z0 => ?_
    (repeat' ((conv => whnf); first | refine NCall.eq (hR') (by first | rfl | (simp only [AV.gives, AV.give, un_bytesD]; first | done | rfl)) ?_ | refine NFact.go ⟨by decide +kernel, by kernel_rfl⟩ ?_)); (all_goals (conv => whnf))
    all_goals (refine NEnd.eq ?_; (repeat' (first | exact leW_refl _ | refine And.intro ?_ ?_ | exact rfl)))
  · rw [trA_bad h] at hR
    obtain ⟨l, c, o⟩ := r
    have hl : l = [] := hW.2 h
    subst hl
    have h' : ¬ c = 0 := h
    have hR' : ACalls Tryz.prog 155 [.d (bytesD false b)] (fun r => r = .tup [spotZ, erA c o]) := hR
    refine acalls_vc 14 _ tabOk mixed Tryz.func131 rfl (by kernel_rfl) rfl rfl rfl rfl fun W0 fp0 z0 => ?_
    (repeat' ((conv => whnf); first | refine NCall.eq (hR') (by first | rfl | (simp only [AV.gives, AV.give, un_bytesD]; first | done | rfl)) ?_ | refine NFact.go ⟨by decide +kernel, by kernel_rfl⟩ ?_)); (all_goals (conv => whnf))
    all_goals (refine NEnd.eq ?_; (repeat' (first | exact leW_refl _ | refine And.intro ?_ ?_ | exact rfl)))
end Go.Proofs.YtblabcopgeobgaaGreatDoor

/- Trees of elements as the reference reads them. No condition. -/
namespace Go.Proofs.YtblabcopgeobgaaGreatDoor
open Go.RowKit

/-- A tree: class, number, constructed, contents, the trees in it. -/
inductive Tr where
  | mk (c n : Nat) (k : Bool) (b : List UInt8) (ks : List Tr)
mutual
def Tr.cells (t : Bool) : Tr → List D
  | .mk c n k b ks => [.v (.int .i64 c), .v (.int .i64 n), .v (.bool k), bytesD t b, .sl t ks.length 5 (Tr.cellss t ks)]
def Tr.cellss (t : Bool) : List Tr → List D
  | [] => []
  | s :: r => s.cells t ++ Tr.cellss t r
end
/-- A tree and how many octets it has, or trees; an error's code and place. -/
structure TR where
  l : List Tr
  size : Nat
  code : Nat
  off : Nat
def TR.bad (code off : Nat) : TR := ⟨[], 0, code, off⟩
end Go.Proofs.YtblabcopgeobgaaGreatDoor

/- The reference's Read. No condition but sizes that memory bears. -/
namespace Go.Proofs.YtblabcopgeobgaaGreatDoor
open Go.RowKit
set_option maxRecDepth 100000
set_option maxHeartbeats 8000000

end Go.Proofs.YtblabcopgeobgaaGreatDoor

/- The reference's Within, Parse, Deep, Open, Bytes, Is. No condition but sizes that memory bears. -/
namespace Go.Proofs.YtblabcopgeobgaaGreatDoor
open Go.RowKit
set_option maxRecDepth 100000
set_option maxHeartbeats 8000000

/-- The tree that is told where there is none. -/
def Tr.zero : Tr := .mk 0 0 false [] []
def TR.tree (r : TR) : Tr := r.l.headD .zero
mutual
/-- A tree's encoding. -/
def Tr.enc : Tr → List UInt8
  | .mk c n k b ks => putS (UInt8.ofNat (idN c k n)) (b ++ Tr.encs ks)
def Tr.encs : List Tr → List UInt8
  | [] => []
  | s :: r => s.enc ++ Tr.encs r
end
mutual
/-- Classes and numbers that there are. -/
def Tr.ok : Tr → Prop
  | .mk c n _ _ ks => c ≤ 3 ∧ n ≤ 30 ∧ Tr.oks ks
def Tr.oks : List Tr → Prop
  | [] => True
  | s :: r => s.ok ∧ Tr.oks r
end
end Go.Proofs.YtblabcopgeobgaaGreatDoor

/- The reference's Object, ReadObject, Kid, Octets. No condition but sizes that memory bears. -/
namespace Go.Proofs.YtblabcopgeobgaaGreatDoor
open Go.RowKit
set_option maxRecDepth 100000
set_option maxHeartbeats 8000000

theorem oidE_len (s : List UInt8) : (oidE s).length ≤ 5 * (s.length + 1) := by
  unfold oidE
  cases h : arcsS s with
  | none => simp
  | some a =>
    obtain ⟨k1, k2, k3⟩ := arcsS_some h
    have hal := arcsS_len0 h
    obtain ⟨x, y, r, rfl, x2, xy, y2⟩ := rightB_ne k1
    have hxy : 40 * x + y ≤ 4294967295 := by
      by_cases hx : x < 2
      · have := xy hx; omega
      · omega
    have h1 := b128_len0 true 4 (40 * x + y) (by omega)
    have h2 := flat128_len0 r (fun n hn => k2 n (by simp [hn]))
    simp only [List.length_cons] at hal
    simp only [encO, List.length_append]; omega
def Tr.v : Tr → List UInt8
  | .mk _ _ _ b _ => b
def Tr.ks : Tr → List Tr
  | .mk _ _ _ _ ks => ks
def Tr.n : Tr → Nat
  | .mk _ n _ _ _ => n
end Go.Proofs.YtblabcopgeobgaaGreatDoor

/- Elements in plain Lean: what is written is read, and what is read is written so. No condition but lengths that the length octets bear. -/
namespace Go.Proofs.YtblabcopgeobgaaGreatDoor
open Go.RowKit

theorem beV_minN (n : Nat) : beV (minN n) = n := by
  induction n using Nat.strongRecOn with
  | _ n ih =>
    by_cases h : n < 256
    · rw [minN_small h]; simp [beV]; omega
    · rw [minN_more h, beV_snoc, ih (n / 256) (by omega), UInt8.toNat_ofNat']; omega
theorem rlS_len (n : Nat) (hn : n ≤ 2147483647) (rest : List UInt8) : rlS (lenS n ++ rest) = (n, (lenS n).length, 0, 0) := by
  have hL := minN_len 3 n (by omega)
  by_cases h : n < 128
  · rw [lenS, if_pos h, minN_small (by omega), List.singleton_append, rlS_small (by rw [UInt8.toNat_ofNat']; omega), UInt8.toNat_ofNat', Nat.mod_eq_of_lt (by omega)]
    rfl
  · obtain ⟨y, s, e, hy⟩ := minN_head 3 n (by omega) (by omega)
    have hb : beV (y :: s) = n := by rw [← e, beV_minN]
    rw [e] at hL
    rw [List.length_cons] at hL
    have hk : (UInt8.ofNat (128 + (y :: s).length)).toNat = s.length + 1 + 128 := by rw [UInt8.toNat_ofNat', List.length_cons]; omega
    have ht : (y :: (s ++ rest)).take (s.length + 1) = y :: s := by simp
    rw [lenS, if_neg h, e, List.cons_append, List.cons_append, rlS_ok hk (by omega) (by omega) (by simp) (by rw [ht, hb]; omega), ht, hb]
    rfl
theorem idN_eq (c n : Nat) (k : Bool) : idN c k n = c * 64 + n + (if k then 32 else 0) := by unfold idN; cases k <;> simp <;> omega
theorem idB_toNat {c n : Nat} (k : Bool) (hc : c ≤ 3) (hn : n ≤ 30) : (UInt8.ofNat (idN c k n)).toNat = c * 64 + n + (if k then 32 else 0) := by
  have := idN_lt k hc hn
  rw [UInt8.toNat_ofNat', Nat.mod_eq_of_lt (by omega), idN_eq]
theorem rhS_put {c n : Nat} {k : Bool} (l rest : List UInt8) (hc : c ≤ 3) (hn : n ≤ 30) (hl : l.length ≤ 2147483647) : rhS (encS c n k l ++ rest) = ⟨c, n, k, l.length, (lenS l.length).length + 1, 0, 0⟩ := by
  have hx := idB_toNat k hc hn
  unfold encS putS
  generalize UInt8.ofNat (idN c k n) = x at hx
  rw [List.cons_append, List.append_assoc, rhS, rlS_len _ hl]
  cases k
  · simp only [Bool.false_eq_true, ite_false, Nat.add_zero] at hx
    rw [if_neg (by omega), if_pos rfl, show x.toNat / 64 = c by omega, show x.toNat % 32 = n by omega, show (x.toNat / 32 % 2 == 1) = false by rw [beq_eq_false_iff_ne]; omega]
  · simp only [ite_true] at hx
    rw [if_neg (by omega), if_pos rfl, show x.toNat / 64 = c by omega, show x.toNat % 32 = n by omega, show (x.toNat / 32 % 2 == 1) = true by rw [beq_iff_eq]; omega]
/-- An element: class, number, constructed, contents. -/
structure Tv where
  c : Nat
  n : Nat
  k : Bool
  v : List UInt8
  deriving DecidableEq
def Tv.enc (t : Tv) : List UInt8 := encS t.c t.n t.k t.v
structure Tv.ok (t : Tv) : Prop where
  c : t.c ≤ 3
  n : t.n ≤ 30
  v : t.v.length ≤ 2147483647
def Tv.hd (t : Tv) : Nat := (lenS t.v.length).length + 1
theorem Tv.len (t : Tv) : t.enc.length = t.hd + t.v.length := by
  unfold Tv.enc Tv.hd encS putS
  rw [List.length_cons, List.length_append]; omega
theorem Tv.body (t : Tv) : t.enc.drop t.hd = t.v := by
  unfold Tv.enc Tv.hd encS putS
  rw [List.drop_succ_cons, List.drop_left]
theorem Tv.rh {t : Tv} (h : t.ok) (rest : List UInt8) : rhS (t.enc ++ rest) = ⟨t.c, t.n, t.k, t.v.length, t.hd, 0, 0⟩ := rhS_put t.v rest h.c h.n h.v
/-- The element at the beginning is the only one. -/
theorem Tv.inj {t u : Tv} (ht : t.ok) (hu : u.ok) {r s : List UInt8} (h : t.enc ++ r = u.enc ++ s) : t = u ∧ r = s := by
  have h1 := Tv.rh ht r
  have h2 := Tv.rh hu s
  rw [h] at h1
  rw [h1] at h2
  injection h2 with e1 e2 e3 e4 e5
  have hb : t.enc = u.enc := by
    have := congrArg (List.take t.enc.length) h
    rw [List.take_left, show t.enc.length = u.enc.length by rw [Tv.len, Tv.len]; omega, List.take_left] at this
    exact this
  have hv : t.v = u.v := by rw [← t.body, ← u.body, hb, show t.hd = u.hd from e5]
  obtain ⟨a, b, c, d⟩ := t
  obtain ⟨a', b', c', d'⟩ := u
  simp only at e1 e2 e3 hv
  subst e1 e2 e3 hv
  exact ⟨rfl, List.append_cancel_left h⟩
end Go.Proofs.YtblabcopgeobgaaGreatDoor
