/- A text of the proof of a statement about the given program: heaplets, and what is owned. No person has read it. -/
import Derived.WalkKit
import Derived.Laws.CopyOwn
namespace Go.Gp
open Go Go.RowKit

/-! Heaplets: what a list of resources says of memory. -/

abbrev Hp := Nat → Option Obj
abbrev HProp := Hp → Prop

def Sat (w : World) : List HProp → (Nat → Prop) → Prop
  | [], _ => True
  | A :: l, S => ∃ h : Hp, A h ∧ (∀ k o, h k = some o → S k ∧ w.heap[k]? = some o) ∧ Sat w l (fun k => S k ∧ h k = none)

theorem Sat.world {w w' : World} : ∀ {l : List HProp} {S : Nat → Prop}, (∀ k o, S k → w.heap[k]? = some o → w'.heap[k]? = some o) → Sat w l S → Sat w' l S
  | [], _, _, _ => trivial
  | _ :: _, _, hw, ⟨h, hA, hh, hl⟩ => ⟨h, hA, fun k o hk => ⟨(hh k o hk).1, hw k o (hh k o hk).1 (hh k o hk).2⟩, hl.world (fun k o hk => hw k o hk.1)⟩

theorem Sat.set {w : World} : ∀ {l : List HProp} {S S' : Nat → Prop}, (∀ k o, S k → w.heap[k]? = some o → S' k) → Sat w l S → Sat w l S'
  | [], _, _, _, _ => trivial
  | _ :: _, _, _, hS, ⟨h, hA, hh, hl⟩ => ⟨h, hA, fun k o hk => ⟨hS k o (hh k o hk).1 (hh k o hk).2, (hh k o hk).2⟩, hl.set (fun k o hk hw => ⟨hS k o hk.1 hw, hk.2⟩)⟩

theorem Sat.swap {w : World} {A B : HProp} {l : List HProp} {S : Nat → Prop} (hs : Sat w (A :: B :: l) S) : Sat w (B :: A :: l) S := by
  obtain ⟨h1, hA, hh1, h2, hB, hh2, hl⟩ := hs
  refine ⟨h2, hB, fun k o hk => ⟨(hh2 k o hk).1.1, (hh2 k o hk).2⟩, h1, hA, fun k o hk => ⟨⟨(hh1 k o hk).1, ?_⟩, (hh1 k o hk).2⟩, hl.set (fun k o hk _ => ⟨⟨hk.1.1, hk.2⟩, hk.1.2⟩)⟩
  cases e : h2 k with
  | none => rfl
  | some o' => have := (hh2 k o' e).1.2; rw [hk] at this; cases this

theorem Sat.cons_mono {w : World} {A : HProp} {l l' : List HProp} {S : Nat → Prop} (hl : ∀ S, Sat w l S → Sat w l' S) (hs : Sat w (A :: l) S) : Sat w (A :: l') S := by
  obtain ⟨h, hA, hh, hr⟩ := hs
  exact ⟨h, hA, hh, hl _ hr⟩

theorem Sat.perm {w : World} {l l' : List HProp} (hp : l.Perm l') : ∀ {S : Nat → Prop}, Sat w l S → Sat w l' S := by
  induction hp with
  | nil => exact fun h => h
  | cons A _ ih => exact fun h => h.cons_mono (fun _ => ih)
  | swap A B l => exact fun h => h.swap
  | trans _ _ ih1 ih2 => exact fun h => ih2 (ih1 h)

theorem Sat.tail {w : World} {A : HProp} {l : List HProp} {S : Nat → Prop} (hs : Sat w (A :: l) S) : Sat w l S := by
  obtain ⟨h, _, _, hl⟩ := hs
  exact hl.set (fun k o hk _ => hk.1)

theorem Sat.imp {w : World} {A B : HProp} {l : List HProp} {S : Nat → Prop} (hAB : ∀ h, A h → B h) (hs : Sat w (A :: l) S) : Sat w (B :: l) S := by
  obtain ⟨h, hA, hh, hl⟩ := hs
  exact ⟨h, hAB h hA, hh, hl⟩

def star (A B : HProp) : HProp := fun h => ∃ h1 h2 : Hp, A h1 ∧ B h2 ∧ (∀ k, h1 k = none ∨ h2 k = none) ∧ (∀ k o, h1 k = some o → h k = some o) ∧ (∀ k o, h2 k = some o → h k = some o)

def hpure (p : Prop) (A : HProp) : HProp := fun h => p ∧ A h
def hex {α : Sort _} (A : α → HProp) : HProp := fun h => ∃ x, A x h
def emp : HProp := fun _ => True

theorem Sat.star_out {w : World} {A B : HProp} {l : List HProp} {S : Nat → Prop} (hs : Sat w (star A B :: l) S) : Sat w (A :: B :: l) S := by
  obtain ⟨h, ⟨h1, h2, hA, hB, hd, k1, k2⟩, hh, hl⟩ := hs
  refine ⟨h1, hA, fun k o e => hh k o (k1 k o e), h2, hB, fun k o e => ⟨⟨(hh k o (k2 k o e)).1, ?_⟩, (hh k o (k2 k o e)).2⟩, hl.set (fun k o hk _ => ⟨⟨hk.1, ?_⟩, ?_⟩)⟩
  · rcases hd k with h0 | h0
    · exact h0
    · rw [e] at h0; cases h0
  · cases e1 : h1 k with
    | none => rfl
    | some o' => have := k1 k o' e1; rw [hk.2] at this; cases this
  · cases e2 : h2 k with
    | none => rfl
    | some o' => have := k2 k o' e2; rw [hk.2] at this; cases this

theorem Sat.star_in {w : World} {A B : HProp} {l : List HProp} {S : Nat → Prop} (hs : Sat w (A :: B :: l) S) : Sat w (star A B :: l) S := by
  obtain ⟨h1, hA, hh1, h2, hB, hh2, hl⟩ := hs
  refine ⟨fun k => match h1 k with | some o => some o | none => h2 k, ⟨h1, h2, hA, hB, fun k => ?_, fun k o e => by simp [e], fun k o e => ?_⟩, fun k o e => ?_, hl.set (fun k o hk _ => ⟨hk.1.1, ?_⟩)⟩
  · cases e : h2 k with
    | none => exact .inr rfl
    | some o => exact .inl (hh2 k o e).1.2
  · have := (hh2 k o e).1.2; simp [this, e]
  · cases e1 : h1 k with
    | none => simp [e1] at e; exact ⟨(hh2 k o e).1.1, (hh2 k o e).2⟩
    | some o' => simp [e1] at e; subst e; exact hh1 k o' e1
  · simp [hk.1.2, hk.2]

theorem Sat.ex_out {w : World} {α : Sort _} {A : α → HProp} {l : List HProp} {S : Nat → Prop} (hs : Sat w (hex A :: l) S) : ∃ x, Sat w (A x :: l) S := by
  obtain ⟨h, ⟨x, hA⟩, hh, hl⟩ := hs
  exact ⟨x, h, hA, hh, hl⟩

theorem Sat.pure_out {w : World} {p : Prop} {A : HProp} {l : List HProp} {S : Nat → Prop} (hs : Sat w (hpure p A :: l) S) : p ∧ Sat w (A :: l) S := by
  obtain ⟨h, ⟨hp, hA⟩, hh, hl⟩ := hs
  exact ⟨hp, h, hA, hh, hl⟩

theorem Sat.emp_in {w : World} {l : List HProp} {S : Nat → Prop} (hs : Sat w l S) : Sat w (emp :: l) S :=
  ⟨fun _ => none, trivial, (fun _ _ h => by cases h), hs.set (fun _ _ h _ => ⟨h, rfl⟩)⟩

def blk (g : Nat) (o : Obj) : HProp := fun h => h g = some o

theorem Sat.blk_heap {w : World} {g : Nat} {o : Obj} {l : List HProp} {S : Nat → Prop} (hs : Sat w (blk g o :: l) S) : w.heap[g]? = some o ∧ S g := by
  obtain ⟨h, hA, hh, _⟩ := hs
  exact ⟨(hh g o hA).2, (hh g o hA).1⟩

/-- What the call may count on: below 'w0' nothing has turned; the resources lie apart, in blocks of its own. -/
structure Own (w0 w : World) (l : List HProp) : Prop where
  below : Below w0.heap.size w0 w
  sat : Sat w l (fun k => w0.heap.size ≤ k)

section
variable {w0 w w' : World} {l l' : List HProp} {A B : HProp}

theorem Own.perm (hp : l.Perm l') (h : Own w0 w l) : Own w0 w l' := ⟨h.below, h.sat.perm hp⟩
theorem Own.tail (h : Own w0 w (A :: l)) : Own w0 w l := ⟨h.below, h.sat.tail⟩
theorem Own.star_out (h : Own w0 w (star A B :: l)) : Own w0 w (A :: B :: l) := ⟨h.below, h.sat.star_out⟩
theorem Own.star_in (h : Own w0 w (A :: B :: l)) : Own w0 w (star A B :: l) := ⟨h.below, h.sat.star_in⟩
theorem Own.ex_out {α : Sort _} {A : α → HProp} (h : Own w0 w (hex A :: l)) : ∃ x, Own w0 w (A x :: l) := let ⟨x, hx⟩ := h.sat.ex_out; ⟨x, h.below, hx⟩
theorem Own.ex_in {α : Sort _} {A : α → HProp} (x : α) (h : Own w0 w (A x :: l)) : Own w0 w (hex A :: l) := ⟨h.below, h.sat.imp (fun _ hA => ⟨x, hA⟩)⟩
theorem Own.pure_out {p : Prop} (h : Own w0 w (hpure p A :: l)) : p ∧ Own w0 w (A :: l) := let ⟨hp, hx⟩ := h.sat.pure_out; ⟨hp, h.below, hx⟩
theorem Own.pure_in {p : Prop} (hp : p) (h : Own w0 w (A :: l)) : Own w0 w (hpure p A :: l) := ⟨h.below, h.sat.imp (fun _ hA => ⟨hp, hA⟩)⟩
theorem Own.imp (hAB : ∀ h, A h → B h) (h : Own w0 w (A :: l)) : Own w0 w (B :: l) := ⟨h.below, h.sat.imp hAB⟩
theorem Own.emp_in (h : Own w0 w l) : Own w0 w (emp :: l) := ⟨h.below, h.sat.emp_in⟩
theorem Own.cons_mono (hl : ∀ w, (∀ S, Sat w l S → Sat w l' S)) (h : Own w0 w (A :: l)) : Own w0 w (A :: l') := ⟨h.below, h.sat.cons_mono (hl w)⟩
theorem Own.nil (w0 : World) : Own w0 w0 [] := ⟨Below.refl _ _, trivial⟩

theorem perm_front {A : HProp} : ∀ {l : List HProp} {i : Nat}, l[i]? = some A → l.Perm (A :: l.eraseIdx i)
  | [], _, h => by simp at h
  | B :: l, 0, h => by simp at h; subst h; exact List.Perm.refl _
  | B :: l, i + 1, h => ((perm_front (l := l) (i := i) (by simpa using h)).cons B).trans (List.Perm.swap _ _ _)

theorem Own.front (i : Nat) (h : l[i]? = some A) (ho : Own w0 w l) : Own w0 w (A :: l.eraseIdx i) := ho.perm (perm_front h)

theorem Own.mem_front (h : A ∈ l) : ∃ m, l.Perm (A :: m) := by
  obtain ⟨i, hi⟩ := List.getElem?_of_mem h
  exact ⟨_, perm_front hi⟩

theorem Own.blk_heap {g : Nat} {o : Obj} (h : Own w0 w l) (hm : blk g o ∈ l) : w.heap[g]? = some o ∧ w0.heap.size ≤ g := by
  obtain ⟨m, hp⟩ := Own.mem_front hm
  exact (h.perm hp).sat.blk_heap

/-- A new block. -/
theorem Own.new (h : Own w0 w l) (hb : Below w.heap.size w w') {o : Obj} (ho : w'.heap[w.heap.size]? = some o) : Own w0 w' (blk w.heap.size o :: l) := by
  have hsz := h.below.size
  refine ⟨h.below.trans (hb.mono hsz), fun k => if k = w.heap.size then some o else none, by simp [blk], fun k o' e => ?_, ?_⟩
  · by_cases hk : k = w.heap.size
    · subst hk; simp at e; subst e; exact ⟨hsz, ho⟩
    · simp [hk] at e
  · refine (h.sat.set (S' := fun k => w0.heap.size ≤ k ∧ k < w.heap.size) (fun k o hk e => ⟨hk, (Array.getElem?_eq_some_iff.1 e).1⟩)).world (w' := w') (fun k o hk e => by rw [hb.block k hk.2]; exact e) |>.set (fun k o hk _ => ⟨hk.1, ?_⟩)
    have : k ≠ w.heap.size := by omega
    simp [this]

theorem Own.same (h : Own w0 w l) (hb : Below w.heap.size w w') : Own w0 w' l := by
  refine ⟨h.below.trans (hb.mono h.below.size), ?_⟩
  exact ((h.sat.set (S' := fun k => w0.heap.size ≤ k ∧ k < w.heap.size) (fun k o hk e => ⟨hk, (Array.getElem?_eq_some_iff.1 e).1⟩)).world (w' := w') (fun k o hk e => by rw [hb.block k hk.2]; exact e)).set (fun k o hk _ => hk.1)

/-- A block that is there is written. -/
theorem Own.write {g : Nat} {o o' : Obj} (h : Own w0 w (blk g o :: l)) (hb : Below w0.heap.size w w') (hne : ∀ k, k ≠ g → w'.heap[k]? = w.heap[k]?) (hg : w'.heap[g]? = some o') : Own w0 w' (blk g o' :: l) := by
  obtain ⟨hbl, h1, hA, hh, hl⟩ := h
  refine ⟨hbl.trans hb, fun k => if k = g then some o' else none, by simp [blk], fun k o'' e => ?_, ?_⟩
  · by_cases hk : k = g
    · subst hk; simp at e; subst e; exact ⟨(hh k o hA).1, hg⟩
    · simp [hk] at e
  · refine (hl.world (w' := w') (fun k o hk e => ?_)).set (fun k o hk _ => ⟨hk.1, ?_⟩)
    · have : k ≠ g := by rintro rfl; have hA' : h1 k = some _ := hA; rw [hA'] at hk; cases hk.2
      rw [hne k this]; exact e
    · have : k ≠ g := by rintro rfl; have hA' : h1 k = some _ := hA; rw [hA'] at hk; cases hk.2
      simp [this]

end

inductive Has (A : HProp) : List HProp → Prop where
  | head {l : List HProp} : Has A (A :: l)
  | tail {B : HProp} {l : List HProp} (h : Has A l) : Has A (B :: l)

theorem Has.mem {A : HProp} {l : List HProp} (h : Has A l) : A ∈ l := by
  induction h with
  | head => exact .head _
  | tail _ ih => exact .tail _ ih

/-- Position in a list: A there, A' put in its place. -/
inductive Upd (A A' : HProp) : List HProp → List HProp → Prop where
  | head {l : List HProp} : Upd A A' (A :: l) (A' :: l)
  | tail {B : HProp} {l l' : List HProp} (h : Upd A A' l l') : Upd A A' (B :: l) (B :: l')

theorem Upd.perm {A A' : HProp} {l l' : List HProp} (h : Upd A A' l l') : ∃ m, l.Perm (A :: m) ∧ (A' :: m).Perm l' := by
  induction h with
  | head => exact ⟨_, List.Perm.refl _, List.Perm.refl _⟩
  | tail _ ih =>
    obtain ⟨m, h1, h2⟩ := ih
    exact ⟨_ :: m, (h1.cons _).trans (List.Perm.swap _ _ _), (List.Perm.swap _ _ _).trans (h2.cons _)⟩

theorem Upd.mem {A A' : HProp} {l l' : List HProp} (h : Upd A A' l l') : A ∈ l := by
  induction h with
  | head => exact .head _
  | tail _ ih => exact .tail _ ih

end Go.Gp
