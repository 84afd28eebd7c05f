/- Plain laws of folding: the implementation's loop and the reference's give the same; what is folded remains as it is. No condition. -/
import Derived.Test.YtafconpneeggiaaDoorFoldImpl
namespace Go.Proofs.YtafconpneeggiaaDoor

theorem low_32 (x : UInt8) : low x = 32 ↔ x = 32 := by
  constructor
  · intro h
    by_cases c : 65 ≤ x.toNat ∧ x.toNat < 91
    · have := low_up x c.1 c.2
      rw [h] at this
      simp at this
      omega
    · rw [low_not x c] at h; exact h
  · rintro rfl; rfl
theorem low_low (x : UInt8) : low (low x) = low x := by
  by_cases c : 65 ≤ x.toNat ∧ x.toNat < 91
  · have := low_up x c.1 c.2
    exact low_not _ (by omega)
  · rw [low_not x c, low_not x c]

theorem trim_sp (l : List UInt8) : Lib.trimSuffix (l ++ [32]) [32] = l := by
  simp [Lib.trimSuffix, Lib.hasSuffix]
theorem trim_no (l : List UInt8) (h : l.getLast? ≠ some 32) : Lib.trimSuffix l [32] = l := by
  rcases last_cases l with rfl | ⟨p, z, rfl⟩
  · simp [Lib.trimSuffix, Lib.hasSuffix]
  · have hz : z ≠ 32 := by simpa using h
    simp [Lib.trimSuffix, Lib.hasSuffix, Ne.symm hz]

theorem foldI_foldR : ∀ (r out : List UInt8) (sp : Bool), out.getLast? ≠ some 32 →
    foldI (out ++ (if sp = true ∧ out ≠ [] then [32] else [])) r = foldR out sp r := by
  intro r
  induction r with
  | nil =>
    intro out sp h
    unfold foldI foldR
    split
    · exact trim_sp out
    · rw [List.append_nil]; exact trim_no out h
  | cons x r ih =>
    intro out sp h
    unfold foldI foldR
    by_cases hx : x = 32
    · subst hx
      rw [if_pos rfl, ← ih out true h]
      have hl : low 32 = 32 := rfl
      rw [hl]
      by_cases ho : out = []
      · subst ho
        simp
      · cases sp with
        | true => simp [ho]
        | false => simp [ho, h]
    · rw [if_neg hx, if_neg (fun e => hx ((low_32 x).1 e.1))]
      rw [← ih _ false (by simp; exact fun e => hx ((low_32 x).1 e))]
      simp

/-- A string, folded. -/
def fold (l : List UInt8) : List UInt8 := foldR [] false l
theorem foldI_eq (l : List UInt8) : foldI [] l = fold l := by
  have := foldI_foldR l [] false (by simp)
  unfold fold; simpa using this

/-- Nothing that folding would change, but for a space at the end. -/
def Good (l : List UInt8) : Prop := (∀ x ∈ l, low x = x) ∧ ∀ p q, l = p ++ 32 :: q → p ≠ [] ∧ p.getLast? ≠ some 32
theorem good_nil : Good [] := ⟨by simp, fun p q h => by simp at h⟩
theorem good_snoc {l : List UInt8} (h : Good l) (y : UInt8) (hy : low y = y) (hs : y = 32 → l ≠ [] ∧ l.getLast? ≠ some 32) : Good (l ++ [y]) := by
  refine ⟨fun x hx => ?_, fun p q e => ?_⟩
  · rcases List.mem_append.1 hx with hx | hx
    · exact h.1 x hx
    · rw [List.mem_singleton.1 hx]; exact hy
  · rcases last_cases q with rfl | ⟨q', z, rfl⟩
    · have := List.append_inj' e rfl
      simp only [List.cons.injEq, and_true] at this
      rw [← this.1]
      exact hs this.2
    · have e2 : l ++ [y] = (p ++ 32 :: q') ++ [z] := by rw [e]; simp
      have := List.append_inj' e2 rfl
      exact h.2 p q' this.1

theorem fold_good : ∀ (r out : List UInt8) (sp : Bool), Good out → out.getLast? ≠ some 32 → Good (foldR out sp r) ∧ (foldR out sp r).getLast? ≠ some 32 := by
  intro r
  induction r with
  | nil => intro out sp h hl; unfold foldR; exact ⟨h, hl⟩
  | cons x r ih =>
    intro out sp h hl
    unfold foldR
    by_cases hx : x = 32
    · rw [if_pos hx]; exact ih out true h hl
    · rw [if_neg hx]
      have hlx : ¬ low x = 32 := fun e => hx ((low_32 x).1 e)
      refine ih _ false ?_ (by simp; exact hlx)
      by_cases hs : sp = true ∧ out ≠ []
      · rw [if_pos hs]
        exact good_snoc (good_snoc h 32 rfl fun _ => ⟨hs.2, hl⟩) _ (low_low x) fun e => absurd e hlx
      · rw [if_neg hs, List.append_nil]
        exact good_snoc h _ (low_low x) fun e => absurd e hlx

theorem foldI_good : ∀ (r out : List UInt8), Good (out ++ r) → foldI out r = Lib.trimSuffix (out ++ r) [32] := by
  intro r
  induction r with
  | nil => intro out h; unfold foldI; rw [List.append_nil]
  | cons x r ih =>
    intro out h
    unfold foldI
    have hx := h.1 x (by simp)
    rw [hx, if_neg]
    · rw [ih (out ++ [x]) (by simpa using h)]; simp
    · rintro ⟨e, e2⟩
      obtain ⟨a, b⟩ := h.2 out r (by rw [e])
      rcases e2 with e2 | e2
      · exact a e2
      · exact b e2

theorem fold_fold (l : List UInt8) : fold (fold l) = fold l := by
  obtain ⟨a, b⟩ : Good (fold l) ∧ (fold l).getLast? ≠ some 32 := fold_good l [] false good_nil (by simp)
  have := foldI_good (fold l) [] (by simpa using a)
  rw [foldI_eq, List.nil_append, trim_no _ b] at this
  exact this

end Go.Proofs.YtafconpneeggiaaDoor
