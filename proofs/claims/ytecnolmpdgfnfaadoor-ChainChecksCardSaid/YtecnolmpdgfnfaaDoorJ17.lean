/- A text of the proof of a statement about the given program: its part J17. No person has read it. -/
import Derived.Test.YtecnolmpdgfnfaaDoorJ16
namespace Go.Gp
open Go Go.RowKit
variable {P : Program} {w : World} {t : TypeId} {cs : List Value}
theorem Fm.strs {v : Value} {e : TypeId} (ht : P.underlying t = some (.slice e)) (he : P.underlying e = some .string) (hc : P.cellsOf e = 1) (h : Fm P w t [v]) :
    ∃ xs : List ByteArray, xs.length ≤ maxLen ∧ Rd w [] v xs.length (xs.map Value.string) := by
  obtain ⟨xs, h1, h2, h3⟩ := Fm.rows (f := fun s : ByteArray => [Value.string s]) (Q := fun _ => True) ht hc (by decide) h fun cs _ hf => by
    obtain ⟨s, rfl, _⟩ := hf.str he; exact ⟨s, trivial, rfl⟩
  have := h3 []
  rw [← List.map_eq_flatMap] at this
  exact ⟨xs, h2, this⟩
/-- A struct's fields, one behind the other. -/
def fldsG (P : Program) : Nat → List Field → Option (List (TypeId × Nat))
  | _, [] => some []
  | off, f :: r => if f.offset = off then (match fldsG P (off + P.cellsOf f.type) r with
    | some l => some ((f.type, P.cellsOf f.type) :: l)
    | none => none) else none
def fldsB (P : Program) (t : TypeId) : Option (List (TypeId × Nat)) :=
  match P.underlying t with
  | some (.struct fs) => (match fldsG P 0 fs.toList with
    | some l => if (l.map (·.2)).sum = P.cellsOf t then some l else none
    | none => none)
  | _ => none
def Fms (P : Program) (w : World) : List (TypeId × Nat) → List Value → Prop
  | [], cs => cs = []
  | (t, n) :: r, cs => (cs.take n).length = n ∧ Fm P w t (cs.take n) ∧ Fms P w r (cs.drop n)
theorem Fms.one {r : List (TypeId × Nat)} (h : Fms P w ((t, 1) :: r) cs) : ∃ c cs', cs = c :: cs' ∧ Fm P w t [c] ∧ Fms P w r cs' := by
  obtain ⟨h1, h2, h3⟩ := h
  cases cs with
  | nil => simp at h1
  | cons c cs => exact ⟨c, cs, rfl, by simpa using h2, by simpa using h3⟩
theorem Fms.many {n : Nat} {r : List (TypeId × Nat)} (h : Fms P w ((t, n) :: r) cs) : ∃ as cs', cs = as ++ cs' ∧ as.length = n ∧ Fm P w t as ∧ Fms P w r cs' :=
  ⟨cs.take n, cs.drop n, (List.take_append_drop n cs).symm, h.1, h.2.1, h.2.2⟩
theorem fldsG_fms : ∀ {fs : List Field} {off : Nat} {l : List (TypeId × Nat)} {cs : List Value}, fldsG P off fs = some l → (∀ (i : Nat) f, fs[i]? = some f → Fm P w f.type ((cs.drop f.offset).take (P.cellsOf f.type))) → cs.length = off + (l.map (·.2)).sum → Fms P w l (cs.drop off)
  | [], off, l, cs, h, _, hl => by
    simp [fldsG] at h; subst h
    simp at hl
    simp [Fms, hl]
  | f :: r, off, l, cs, h, hf, hl => by
    unfold fldsG at h
    split at h
    · rename_i ho
      split at h
      · rename_i l' hl'
        simp at h; subst h
        simp only [List.map_cons, List.sum_cons] at hl
        have h0 := hf 0 f rfl
        rw [ho] at h0
        refine ⟨?_, h0, ?_⟩
        · simp only [List.length_take, List.length_drop]; omega
        · rw [List.drop_drop]
          exact fldsG_fms hl' (fun i g hi => hf (i + 1) g (by simpa using hi)) (by omega)
      · cases h
    · cases h
theorem Fm.fields {l : List (TypeId × Nat)} (hb : fldsB P t = some l) (h : Fm P w t cs) : Fms P w l cs := by
  unfold fldsB at hb
  split at hb
  · rename_i fs hu
    split at hb
    · rename_i l' hg
      split at hb
      · simp at hb; subst hb
        obtain ⟨h1, h2⟩ := h.struct hu
        have := fldsG_fms (w := w) hg h2 (by omega)
        simpa using this
      · cases hb
    · cases hb
  · cases hb
theorem one1 {a : Value} (h : a.oneCell' = true) : ∀ u ∈ [a], u.oneCell' = true := by intro u hu; cases hu with | head => exact h | tail _ h => cases h
theorem oneC {a : Value} {l : List Value} (h : a.oneCell' = true) (hl : ∀ u ∈ l, u.oneCell' = true) : ∀ u ∈ a :: l, u.oneCell' = true := by intro u hu; cases hu with | head => exact h | tail _ h => exact hl u h
theorem one2 {a b : Value} (h : a.oneCell' = true) (h2 : b.oneCell' = true) : ∀ u ∈ [a, b], u.oneCell' = true := oneC h (one1 h2)
theorem one3 {a b c : Value} (h : a.oneCell' = true) (h2 : b.oneCell' = true) (h3 : c.oneCell' = true) : ∀ u ∈ [a, b, c], u.oneCell' = true := oneC h (one2 h2 h3)
theorem one4 {a b c d : Value} (h : a.oneCell' = true) (h2 : b.oneCell' = true) (h3 : c.oneCell' = true) (h4 : d.oneCell' = true) : ∀ u ∈ [a, b, c, d], u.oneCell' = true := oneC h (one3 h2 h3 h4)
theorem one6 {a b c d e f : Value} (h : a.oneCell' = true) (h2 : b.oneCell' = true) (h3 : c.oneCell' = true) (h4 : d.oneCell' = true) (h5 : e.oneCell' = true) (h6 : f.oneCell' = true) : ∀ u ∈ [a, b, c, d, e, f], u.oneCell' = true := oneC h (oneC h2 (one4 h3 h4 h5 h6))
end Go.Gp
