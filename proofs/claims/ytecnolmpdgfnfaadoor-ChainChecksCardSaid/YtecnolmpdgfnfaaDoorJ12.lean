/- A text of the proof of a statement about the given program: its part J12. No person has read it. -/
import Derived.Test.YtecnolmpdgfnfaaDoorJ11
import Derived.Deep.Slices
import Derived.OpenShut
namespace Go.Gp
open Go Go.RowKit

/-- Cells of a type that may be read from outside, whole. -/
def Fm (P : Program) (w : World) (t : TypeId) (cs : List Value) : Prop :=
  ∃ (H : Type) (enc : TypeId × Value → H) (base : Nat) (spare : Nat → Bool) (held : Bool) (fuel : Nat) (x : DataW H × List MemPlace), DataW.trod enc P w base spare held fuel t cs = some x

theorem Fm.of {P : Program} {w : World} {t : TypeId} {v : Value} {H : Type} {enc : TypeId × Value → H} {base : Nat} {spare : Nat → Bool} {held : Bool} {d : DataW H} {ps : List MemPlace}
    (h : DataW.Trod enc P w base spare held t v d ps) : Fm P w t v.cells.toList := by
  obtain ⟨fuel, h⟩ := h
  exact ⟨H, enc, base, spare, held, fuel, _, h⟩

variable {P : Program} {w : World} {t : TypeId} {cs : List Value}

theorem Fm.int {k : IntKind} (ht : P.underlying t = some (.int k)) (h : Fm P w t cs) : ∃ n, cs = [.int k n] ∧ (Lit.int k n).wf = true := by
  obtain ⟨H, enc, base, spare, held, fuel, x, h⟩ := h
  cases fuel with
  | zero => simp [DataW.trod] at h
  | succ m =>
    unfold DataW.trod at h
    rw [ht] at h
    split at h <;> simp_all

theorem Fm.bool (ht : P.underlying t = some .bool) (h : Fm P w t cs) : ∃ b, cs = [.bool b] := by
  obtain ⟨H, enc, base, spare, held, fuel, x, h⟩ := h
  cases fuel with
  | zero => simp [DataW.trod] at h
  | succ m =>
    unfold DataW.trod at h
    rw [ht] at h
    split at h <;> simp_all

theorem Fm.str (ht : P.underlying t = some .string) (h : Fm P w t cs) : ∃ s, cs = [.string s] ∧ s.size ≤ maxLen := by
  obtain ⟨H, enc, base, spare, held, fuel, x, h⟩ := h
  cases fuel with
  | zero => simp [DataW.trod] at h
  | succ m =>
    unfold DataW.trod at h
    rw [ht] at h
    split at h <;> simp_all

theorem Fm.struct {fs : Array Field} (ht : P.underlying t = some (.struct fs)) (h : Fm P w t cs) :
    cs.length = P.cellsOf t ∧ ∀ (i : Nat) f, fs.toList[i]? = some f → Fm P w f.type ((cs.drop f.offset).take (P.cellsOf f.type)) := by
  obtain ⟨H, enc, base, spare, held, fuel, x, h⟩ := h
  obtain ⟨xs, n, _, _, hl, hlen, hf⟩ := DataW.trod_struct ht h
  refine ⟨hl, fun i f hi => ?_⟩
  have h1 := (List.getElem?_eq_some_iff.1 hi).1
  have h2 := hf i f (by simpa using hi)
  rw [List.getElem?_eq_getElem (by simp at h1; omega)] at h2
  exact ⟨H, enc, base, spare, held, n, _, h2⟩

theorem Fm.array {n : Nat} {e : TypeId} (ht : P.underlying t = some (.array n e)) (h : Fm P w t cs) :
    cs.length = P.cellsOf t ∧ ∀ i, i < n → Fm P w e ((cs.drop (i * P.cellsOf e)).take (P.cellsOf e)) := by
  obtain ⟨H, enc, base, spare, held, fuel, x, h⟩ := h
  obtain ⟨xs, m, _, _, hl, hlen, hf⟩ := DataW.trod_array ht h
  refine ⟨hl, fun i hi => ?_⟩
  have h2 := hf i hi
  rw [List.getElem?_eq_getElem (by omega)] at h2
  exact ⟨H, enc, base, spare, held, m, _, h2⟩

theorem Fm.slice {e : TypeId} (ht : P.underlying t = some (.slice e)) (h : Fm P w t cs) :
    cs = [.slice none 0 0] ∨ ∃ (a : Addr) (len cap : Nat), cs = [.slice (some a) len cap] ∧ len ≤ cap ∧ cap ≤ maxLen ∧
      ∀ i, i < len → ∃ cs', cs'.length = P.cellsOf e ∧ (0 < P.cellsOf e → a.spot = none) ∧ (∀ j v, cs'[j]? = some v → w.cell? ⟨a.block, a.off + (i * P.cellsOf e + j), none⟩ = some v) ∧ Fm P w e cs' := by
  obtain ⟨H, enc, base, spare, held, fuel, x, h⟩ := h
  rcases Go.Deep.open_slice ht h with ⟨h0, _⟩ | ⟨a, len, cap, m, n, D, Pl, rfl, hb, hl, hm, hmm, rfl, hx⟩
  · exact .inl h0
  right
  refine ⟨a, len, cap, rfl, hl, hm, fun i hi => ?_⟩
  obtain ⟨cs', h1, h2⟩ := hx i (by rw [hmm]; split <;> omega)
  obtain ⟨_, hlen, hcell⟩ := World.cells?_some h1
  have hsp : 0 < P.cellsOf e → a.spot = none := by
    intro hp
    obtain ⟨cs0, g1, g2⟩ := hx 0 (by rw [hmm]; split <;> omega)
    obtain ⟨_, glen, gcell⟩ := World.cells?_some g1
    have h0 := gcell 0 hp
    have e0 : (a.add (0 * P.cellsOf e)).add 0 = a := by simp [Addr.add]
    rw [e0, List.getElem?_eq_getElem (by omega)] at h0
    exact World.cell?_spot h0
  refine ⟨cs', hlen, hsp, fun j v hv => ?_, H, enc, base, spare, held, n, _, h2⟩
  have hj := (List.getElem?_eq_some_iff.1 hv).1
  have h3 := hcell j (by omega)
  rw [hv, Addr.add_add] at h3
  have := hsp (by omega)
  obtain ⟨b, off, spot⟩ := a
  simp at this; subst this
  rw [show (⟨b, off, none⟩ : Addr).add (i * P.cellsOf e + j) = ⟨b, off + (i * P.cellsOf e + j), none⟩ from addr_add _ _ _] at h3
  exact h3

/-- A slice from outside, by what its elements are. -/
theorem Fm.rows {e : TypeId} {α : Type} {f : α → List Value} {Q : α → Prop} {sz : Nat} {v : Value} (ht : P.underlying t = some (.slice e)) (hsz : P.cellsOf e = sz) (hp : 0 < sz) (h : Fm P w t [v])
    (hel : ∀ cs, cs.length = sz → Fm P w e cs → ∃ x, Q x ∧ cs = f x) :
    ∃ xs : List α, (∀ x ∈ xs, Q x ∧ (f x).length = sz) ∧ xs.length ≤ maxLen ∧ ∀ l, Rd w l v xs.length (xs.flatMap f) := by
  rcases h.slice ht with h0 | ⟨a, len, cap, h0, h1, h2, h3⟩
  · simp at h0; subst h0
    exact ⟨[], by simp, by simp, fun l => .inl ⟨_, _, rfl, rfl, rfl⟩⟩
  simp at h0; subst h0
  have key : ∀ n, n ≤ len → ∃ xs : List α, xs.length = n ∧ (∀ x ∈ xs, Q x ∧ (f x).length = sz) ∧ ∀ j v, (xs.flatMap f)[j]? = some v → w.cell? ⟨a.block, a.off + j, none⟩ = some v := by
    intro n
    induction n with
    | zero => exact fun _ => ⟨[], rfl, by simp, by simp⟩
    | succ n ih =>
      intro hn
      obtain ⟨xs, hl, hq, hc⟩ := ih (by omega)
      obtain ⟨cs', g1, g2, g3, g4⟩ := h3 n (by omega)
      obtain ⟨x, hx, rfl⟩ := hel cs' (by omega) g4
      refine ⟨xs ++ [x], by simp [hl], ?_, ?_⟩
      · intro y hy
        rcases List.mem_append.1 hy with hy | hy
        · exact hq y hy
        · simp at hy; subst hy; exact ⟨hx, by omega⟩
      · intro j v hv
        have hxl : (xs.flatMap f).length = n * sz := by rw [chunk_length (fun y hy => (hq y hy).2), hl]
        rw [List.flatMap_append, List.flatMap_cons, List.flatMap_nil, List.append_nil] at hv
        by_cases hj : j < n * sz
        · rw [List.getElem?_append_left (by omega)] at hv
          exact hc j v hv
        · rw [List.getElem?_append_right (by omega), hxl] at hv
          have := g3 _ _ hv
          rw [hsz, show n * sz + (j - n * sz) = j by omega] at this
          exact this
  obtain ⟨xs, hl, hq, hc⟩ := key len (Nat.le_refl _)
  refine ⟨xs, hq, by omega, fun l => ?_⟩
  rw [hl]
  cases xs with
  | nil => simp at hl; subst hl; exact .inl ⟨_, _, rfl, rfl, rfl⟩
  | cons x xs =>
    have : a.spot = none := by
      obtain ⟨_, _, g, _⟩ := h3 0 (by simp at hl; omega)
      exact g (by omega)
    obtain ⟨b, off, spot⟩ := a
    simp at this; subst this
    exact .inr ⟨b, off, cap, rfl, h1, Cells.base hc⟩
end Go.Gp
