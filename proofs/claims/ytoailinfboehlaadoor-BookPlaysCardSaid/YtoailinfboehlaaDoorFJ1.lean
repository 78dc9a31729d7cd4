/- A text of the proof of a statement about the given program: its part FJ1. No person has read it. -/
import Derived.WalkKit
import Derived.Laws.CopyOwn
import Derived.Laws.BytesArg
import Derived.WalkSpells
import Derived.Laws.IdiomStrings
import Derived.ChangeShapes
import Derived.Deep.Slices
import Derived.OpenShut
namespace Go.Gp
open Go Go.RowKit

/-! Heaplets: what a list of resources says of memory. -/

abbrev Hp := Nat → Option Obj
abbrev HProp := Hp → Prop

def Sat (w : World) : List HProp → (Nat → Prop) → Prop
  | [], _ => True
  | A :: l, S => ∃ h : Hp, A h ∧ (∀ k o, h k = some o → S k ∧ w.heap[k]? = some o) ∧ Sat w l (fun k => S k ∧ h k = none)

theorem Sat.world {w w' : World} : ∀ {l : List HProp} {S : Nat → Prop}, (∀ k o, S k → w.heap[k]? = some o → w'.heap[k]? = some o) → Sat w l S → Sat w' l S
  | [], _, _, _ => trivial
  | _ :: _, _, hw, ⟨h, hA, hh, hl⟩ => ⟨h, hA, fun k o hk => ⟨(hh k o hk).1, hw k o (hh k o hk).1 (hh k o hk).2⟩, hl.world (fun k o hk => hw k o hk.1)⟩

theorem Sat.set {w : World} : ∀ {l : List HProp} {S S' : Nat → Prop}, (∀ k o, S k → w.heap[k]? = some o → S' k) → Sat w l S → Sat w l S'
  | [], _, _, _, _ => trivial
  | _ :: _, _, _, hS, ⟨h, hA, hh, hl⟩ => ⟨h, hA, fun k o hk => ⟨hS k o (hh k o hk).1 (hh k o hk).2, (hh k o hk).2⟩, hl.set (fun k o hk hw => ⟨hS k o hk.1 hw, hk.2⟩)⟩

theorem Sat.swap {w : World} {A B : HProp} {l : List HProp} {S : Nat → Prop} (hs : Sat w (A :: B :: l) S) : Sat w (B :: A :: l) S := by
  obtain ⟨h1, hA, hh1, h2, hB, hh2, hl⟩ := hs
  refine ⟨h2, hB, fun k o hk => ⟨(hh2 k o hk).1.1, (hh2 k o hk).2⟩, h1, hA, fun k o hk => ⟨⟨(hh1 k o hk).1, ?_⟩, (hh1 k o hk).2⟩, hl.set (fun k o hk _ => ⟨⟨hk.1.1, hk.2⟩, hk.1.2⟩)⟩
  cases e : h2 k with
  | none => rfl
  | some o' => have := (hh2 k o' e).1.2; rw [hk] at this; cases this

theorem Sat.cons_mono {w : World} {A : HProp} {l l' : List HProp} {S : Nat → Prop} (hl : ∀ S, Sat w l S → Sat w l' S) (hs : Sat w (A :: l) S) : Sat w (A :: l') S := by
  obtain ⟨h, hA, hh, hr⟩ := hs
  exact ⟨h, hA, hh, hl _ hr⟩

theorem Sat.perm {w : World} {l l' : List HProp} (hp : l.Perm l') : ∀ {S : Nat → Prop}, Sat w l S → Sat w l' S := by
  induction hp with
  | nil => exact fun h => h
  | cons A _ ih => exact fun h => h.cons_mono (fun _ => ih)
  | swap A B l => exact fun h => h.swap
  | trans _ _ ih1 ih2 => exact fun h => ih2 (ih1 h)

theorem Sat.tail {w : World} {A : HProp} {l : List HProp} {S : Nat → Prop} (hs : Sat w (A :: l) S) : Sat w l S := by
  obtain ⟨h, _, _, hl⟩ := hs
  exact hl.set (fun k o hk _ => hk.1)

theorem Sat.imp {w : World} {A B : HProp} {l : List HProp} {S : Nat → Prop} (hAB : ∀ h, A h → B h) (hs : Sat w (A :: l) S) : Sat w (B :: l) S := by
  obtain ⟨h, hA, hh, hl⟩ := hs
  exact ⟨h, hAB h hA, hh, hl⟩

def star (A B : HProp) : HProp := fun h => ∃ h1 h2 : Hp, A h1 ∧ B h2 ∧ (∀ k, h1 k = none ∨ h2 k = none) ∧ (∀ k o, h1 k = some o → h k = some o) ∧ (∀ k o, h2 k = some o → h k = some o)

def hpure (p : Prop) (A : HProp) : HProp := fun h => p ∧ A h
def hex {α : Sort _} (A : α → HProp) : HProp := fun h => ∃ x, A x h
def emp : HProp := fun _ => True

theorem Sat.star_out {w : World} {A B : HProp} {l : List HProp} {S : Nat → Prop} (hs : Sat w (star A B :: l) S) : Sat w (A :: B :: l) S := by
  obtain ⟨h, ⟨h1, h2, hA, hB, hd, k1, k2⟩, hh, hl⟩ := hs
  refine ⟨h1, hA, fun k o e => hh k o (k1 k o e), h2, hB, fun k o e => ⟨⟨(hh k o (k2 k o e)).1, ?_⟩, (hh k o (k2 k o e)).2⟩, hl.set (fun k o hk _ => ⟨⟨hk.1, ?_⟩, ?_⟩)⟩
  · rcases hd k with h0 | h0
    · exact h0
    · rw [e] at h0; cases h0
  · cases e1 : h1 k with
    | none => rfl
    | some o' => have := k1 k o' e1; rw [hk.2] at this; cases this
  · cases e2 : h2 k with
    | none => rfl
    | some o' => have := k2 k o' e2; rw [hk.2] at this; cases this

theorem Sat.star_in {w : World} {A B : HProp} {l : List HProp} {S : Nat → Prop} (hs : Sat w (A :: B :: l) S) : Sat w (star A B :: l) S := by
  obtain ⟨h1, hA, hh1, h2, hB, hh2, hl⟩ := hs
  refine ⟨fun k => match h1 k with | some o => some o | none => h2 k, ⟨h1, h2, hA, hB, fun k => ?_, fun k o e => by simp [e], fun k o e => ?_⟩, fun k o e => ?_, hl.set (fun k o hk _ => ⟨hk.1.1, ?_⟩)⟩
  · cases e : h2 k with
    | none => exact .inr rfl
    | some o => exact .inl (hh2 k o e).1.2
  · have := (hh2 k o e).1.2; simp [this, e]
  · cases e1 : h1 k with
    | none => simp [e1] at e; exact ⟨(hh2 k o e).1.1, (hh2 k o e).2⟩
    | some o' => simp [e1] at e; subst e; exact hh1 k o' e1
  · simp [hk.1.2, hk.2]

theorem Sat.ex_out {w : World} {α : Sort _} {A : α → HProp} {l : List HProp} {S : Nat → Prop} (hs : Sat w (hex A :: l) S) : ∃ x, Sat w (A x :: l) S := by
  obtain ⟨h, ⟨x, hA⟩, hh, hl⟩ := hs
  exact ⟨x, h, hA, hh, hl⟩

theorem Sat.pure_out {w : World} {p : Prop} {A : HProp} {l : List HProp} {S : Nat → Prop} (hs : Sat w (hpure p A :: l) S) : p ∧ Sat w (A :: l) S := by
  obtain ⟨h, ⟨hp, hA⟩, hh, hl⟩ := hs
  exact ⟨hp, h, hA, hh, hl⟩

theorem Sat.emp_in {w : World} {l : List HProp} {S : Nat → Prop} (hs : Sat w l S) : Sat w (emp :: l) S :=
  ⟨fun _ => none, trivial, (fun _ _ h => by cases h), hs.set (fun _ _ h _ => ⟨h, rfl⟩)⟩

def blk (g : Nat) (o : Obj) : HProp := fun h => h g = some o

theorem Sat.blk_heap {w : World} {g : Nat} {o : Obj} {l : List HProp} {S : Nat → Prop} (hs : Sat w (blk g o :: l) S) : w.heap[g]? = some o ∧ S g := by
  obtain ⟨h, hA, hh, _⟩ := hs
  exact ⟨(hh g o hA).2, (hh g o hA).1⟩

/-- What the call may count on: below 'w0' nothing has turned; the resources lie apart, in blocks of its own. -/
structure Own (w0 w : World) (l : List HProp) : Prop where
  below : Below w0.heap.size w0 w
  sat : Sat w l (fun k => w0.heap.size ≤ k)

section
variable {w0 w w' : World} {l l' : List HProp} {A B : HProp}

theorem Own.perm (hp : l.Perm l') (h : Own w0 w l) : Own w0 w l' := ⟨h.below, h.sat.perm hp⟩
theorem Own.tail (h : Own w0 w (A :: l)) : Own w0 w l := ⟨h.below, h.sat.tail⟩
theorem Own.star_out (h : Own w0 w (star A B :: l)) : Own w0 w (A :: B :: l) := ⟨h.below, h.sat.star_out⟩
theorem Own.star_in (h : Own w0 w (A :: B :: l)) : Own w0 w (star A B :: l) := ⟨h.below, h.sat.star_in⟩
theorem Own.ex_out {α : Sort _} {A : α → HProp} (h : Own w0 w (hex A :: l)) : ∃ x, Own w0 w (A x :: l) := let ⟨x, hx⟩ := h.sat.ex_out; ⟨x, h.below, hx⟩
theorem Own.ex_in {α : Sort _} {A : α → HProp} (x : α) (h : Own w0 w (A x :: l)) : Own w0 w (hex A :: l) := ⟨h.below, h.sat.imp (fun _ hA => ⟨x, hA⟩)⟩
theorem Own.pure_out {p : Prop} (h : Own w0 w (hpure p A :: l)) : p ∧ Own w0 w (A :: l) := let ⟨hp, hx⟩ := h.sat.pure_out; ⟨hp, h.below, hx⟩
theorem Own.pure_in {p : Prop} (hp : p) (h : Own w0 w (A :: l)) : Own w0 w (hpure p A :: l) := ⟨h.below, h.sat.imp (fun _ hA => ⟨hp, hA⟩)⟩
theorem Own.imp (hAB : ∀ h, A h → B h) (h : Own w0 w (A :: l)) : Own w0 w (B :: l) := ⟨h.below, h.sat.imp hAB⟩
theorem Own.emp_in (h : Own w0 w l) : Own w0 w (emp :: l) := ⟨h.below, h.sat.emp_in⟩
theorem Own.cons_mono (hl : ∀ w, (∀ S, Sat w l S → Sat w l' S)) (h : Own w0 w (A :: l)) : Own w0 w (A :: l') := ⟨h.below, h.sat.cons_mono (hl w)⟩
theorem Own.nil (w0 : World) : Own w0 w0 [] := ⟨Below.refl _ _, trivial⟩

theorem perm_front {A : HProp} : ∀ {l : List HProp} {i : Nat}, l[i]? = some A → l.Perm (A :: l.eraseIdx i)
  | [], _, h => by simp at h
  | B :: l, 0, h => by simp at h; subst h; exact List.Perm.refl _
  | B :: l, i + 1, h => ((perm_front (l := l) (i := i) (by simpa using h)).cons B).trans (List.Perm.swap _ _ _)

theorem Own.front (i : Nat) (h : l[i]? = some A) (ho : Own w0 w l) : Own w0 w (A :: l.eraseIdx i) := ho.perm (perm_front h)

theorem Own.mem_front (h : A ∈ l) : ∃ m, l.Perm (A :: m) := by
  obtain ⟨i, hi⟩ := List.getElem?_of_mem h
  exact ⟨_, perm_front hi⟩

theorem Own.blk_heap {g : Nat} {o : Obj} (h : Own w0 w l) (hm : blk g o ∈ l) : w.heap[g]? = some o ∧ w0.heap.size ≤ g := by
  obtain ⟨m, hp⟩ := Own.mem_front hm
  exact (h.perm hp).sat.blk_heap

/-- A new block. -/
theorem Own.new (h : Own w0 w l) (hb : Below w.heap.size w w') {o : Obj} (ho : w'.heap[w.heap.size]? = some o) : Own w0 w' (blk w.heap.size o :: l) := by
  have hsz := h.below.size
  refine ⟨h.below.trans (hb.mono hsz), fun k => if k = w.heap.size then some o else none, by simp [blk], fun k o' e => ?_, ?_⟩
  · by_cases hk : k = w.heap.size
    · subst hk; simp at e; subst e; exact ⟨hsz, ho⟩
    · simp [hk] at e
  · refine (h.sat.set (S' := fun k => w0.heap.size ≤ k ∧ k < w.heap.size) (fun k o hk e => ⟨hk, (Array.getElem?_eq_some_iff.1 e).1⟩)).world (w' := w') (fun k o hk e => by rw [hb.block k hk.2]; exact e) |>.set (fun k o hk _ => ⟨hk.1, ?_⟩)
    have : k ≠ w.heap.size := by omega
    simp [this]

theorem Own.same (h : Own w0 w l) (hb : Below w.heap.size w w') : Own w0 w' l := by
  refine ⟨h.below.trans (hb.mono h.below.size), ?_⟩
  exact ((h.sat.set (S' := fun k => w0.heap.size ≤ k ∧ k < w.heap.size) (fun k o hk e => ⟨hk, (Array.getElem?_eq_some_iff.1 e).1⟩)).world (w' := w') (fun k o hk e => by rw [hb.block k hk.2]; exact e)).set (fun k o hk _ => hk.1)

/-- A block that is there is written. -/
theorem Own.write {g : Nat} {o o' : Obj} (h : Own w0 w (blk g o :: l)) (hb : Below w0.heap.size w w') (hne : ∀ k, k ≠ g → w'.heap[k]? = w.heap[k]?) (hg : w'.heap[g]? = some o') : Own w0 w' (blk g o' :: l) := by
  obtain ⟨hbl, h1, hA, hh, hl⟩ := h
  refine ⟨hbl.trans hb, fun k => if k = g then some o' else none, by simp [blk], fun k o'' e => ?_, ?_⟩
  · by_cases hk : k = g
    · subst hk; simp at e; subst e; exact ⟨(hh k o hA).1, hg⟩
    · simp [hk] at e
  · refine (hl.world (w' := w') (fun k o hk e => ?_)).set (fun k o hk _ => ⟨hk.1, ?_⟩)
    · have : k ≠ g := by rintro rfl; have hA' : h1 k = some _ := hA; rw [hA'] at hk; cases hk.2
      rw [hne k this]; exact e
    · have : k ≠ g := by rintro rfl; have hA' : h1 k = some _ := hA; rw [hA'] at hk; cases hk.2
      simp [this]

end

inductive Has (A : HProp) : List HProp → Prop where
  | head {l : List HProp} : Has A (A :: l)
  | tail {B : HProp} {l : List HProp} (h : Has A l) : Has A (B :: l)

theorem Has.mem {A : HProp} {l : List HProp} (h : Has A l) : A ∈ l := by
  induction h with
  | head => exact .head _
  | tail _ ih => exact .tail _ ih

/-- Position in a list: A there, A' put in its place. -/
inductive Upd (A A' : HProp) : List HProp → List HProp → Prop where
  | head {l : List HProp} : Upd A A' (A :: l) (A' :: l)
  | tail {B : HProp} {l l' : List HProp} (h : Upd A A' l l') : Upd A A' (B :: l) (B :: l')

theorem Upd.perm {A A' : HProp} {l l' : List HProp} (h : Upd A A' l l') : ∃ m, l.Perm (A :: m) ∧ (A' :: m).Perm l' := by
  induction h with
  | head => exact ⟨_, List.Perm.refl _, List.Perm.refl _⟩
  | tail _ ih =>
    obtain ⟨m, h1, h2⟩ := ih
    exact ⟨_ :: m, (h1.cons _).trans (List.Perm.swap _ _ _), (List.Perm.swap _ _ _).trans (h2.cons _)⟩

theorem Upd.mem {A A' : HProp} {l l' : List HProp} (h : Upd A A' l l') : A ∈ l := by
  induction h with
  | head => exact .head _
  | tail _ ih => exact .tail _ ih

end Go.Gp

namespace Go.Gp
open Go Go.RowKit

/-! Frames: what is known of the slots. -/

abbrev Env := List (Nat × Value)

theorem nbeq {a b : Nat} (h : ¬ a = b) : Nat.beq a b = false := by
  cases e : Nat.beq a b with
  | false => rfl
  | true => exact absurd (Nat.eq_of_beq_eq_true e) h

def Env.get : Env → Nat → Option Value
  | [], _ => none
  | (t, v) :: e, s => bif Nat.beq s t then some v else Env.get e s

def ev (env : Env) : Operand → Option Value
  | .tmp t => Env.get env t
  | .const v => some v
  | .global g => some (.pointer (some ⟨g, 0, none⟩))
  | .func f => some (.func (.func f) #[] #[])

def evs (env : Env) : List Operand → Option (List Value)
  | [] => some []
  | x :: xs => match ev env x with
    | some v => (match evs env xs with
      | some vs => some (v :: vs)
      | none => none)
    | none => none

structure EnvOk (n : Nat) (ds : List Deferred) (a : Act) (env : Env) : Prop where
  size : a.tmps.size = n
  defers : a.defers = ds
  get : ∀ t v, Env.get env t = some v → a.tmps[t]? = some v

theorem EnvOk.ev {n : Nat} {ds : List Deferred} {a : Act} {env : Env} (h : EnvOk n ds a env) {x : Operand} {u : Value} (hx : ev env x = some u) : a.eval x = u := by
  cases x with
  | tmp t => have := h.get t u hx; simp [Act.eval, this]
  | const v => simpa [Gp.ev, Act.eval] using hx
  | global g => simpa [Gp.ev, Act.eval] using hx
  | func f => simpa [Gp.ev, Act.eval] using hx

/-- The environment says the same of the operands 'xs'. -/
def Rds (ρ : Operand → Value) (env : Env) (xs : Array Operand) : Prop := ∀ x ∈ xs, ∀ u, ev env x = some u → ρ x = u

theorem EnvOk.rds {n : Nat} {ds : List Deferred} {a : Act} {env : Env} (h : EnvOk n ds a env) (xs : Array Operand) : Rds a.eval env xs := fun _ _ _ hx => h.ev hx

theorem Rds.evs {ρ : Operand → Value} {env : Env} : ∀ {xs : List Operand} {vs : List Value}, (∀ x ∈ xs, ∀ u, ev env x = some u → ρ x = u) → evs env xs = some vs → xs.map ρ = vs
  | [], vs, _, h => by simp [Gp.evs] at h; subst h; rfl
  | x :: xs, vs, hr, h => by
    unfold Gp.evs at h
    split at h
    · rename_i v hv
      split at h
      · rename_i vs' hvs
        simp at h; subst h
        simp only [List.map_cons]
        rw [hr x (.head _) v hv, Rds.evs (fun y hy => hr y (.tail _ hy)) hvs]
      · cases h
    · cases h

def putd (d : Option Tmp) (v : Value) (env : Env) : Env := match d with | some t => (t, v) :: env | none => env

def okd (d : Option Tmp) (n : Nat) : Bool := match d with | some t => Nat.blt t n | none => true

theorem EnvOk.put {n : Nat} {ds : List Deferred} {a : Act} {env : Env} (h : EnvOk n ds a env) {d : Option Tmp} (hd : okd d n = true) (v : Value) : EnvOk n ds (a.put d v) (putd d v env) := by
  cases d with
  | none => exact h
  | some t =>
    have hlt : t < n := by simpa [okd, Nat.blt_eq] using hd
    refine ⟨by simp [Act.put, h.size], h.defers, fun s u hs => ?_⟩
    simp only [putd, Env.get] at hs
    by_cases e : s = t
    · subst e; simp at hs; subst hs; simp [Act.put, h.size, hlt]
    · have : Nat.beq s t = false := nbeq e
      rw [this] at hs
      simp only [cond_false] at hs
      have := h.get s u hs
      simp only [Act.put]
      rw [Array.getElem?_setIfInBounds_ne (fun e' => e e'.symm)]
      exact this

/-- 'env'' knows no more than 'env'. -/
def SubEnv : Env → Env → Prop
  | [], _ => True
  | (t, v) :: e, env => Env.get env t = some v ∧ SubEnv e env

theorem SubEnv.get {env : Env} : ∀ {e : Env}, SubEnv e env → ∀ t v, Env.get e t = some v → Env.get env t = some v
  | [], _, _, _, h => by simp [Env.get] at h
  | (s, u) :: e, ⟨h1, h2⟩, t, v, h => by
    simp only [Env.get] at h
    by_cases e' : t = s
    · subst e'; simp at h; subst h; exact h1
    · have : Nat.beq t s = false := nbeq e'
      rw [this] at h
      exact h2.get t v h

theorem EnvOk.sub {n : Nat} {ds : List Deferred} {a : Act} {env e : Env} (h : EnvOk n ds a env) (hs : SubEnv e env) : EnvOk n ds a e := ⟨h.size, h.defers, fun t v ht => h.get t v (hs.get t v ht)⟩

/-! The machine from a point on: it comes to the function's end, and there 'R' holds. -/

structure Cx where
  P : Program
  w0 : World
  f : FuncId
  fn : Func
  n : Nat
  R : Value → List HProp → Prop
  ro : Option Nat
  ds : List Deferred

/-- The end: of a function, it is leaving; of a round, its caller goes on. -/
def EndsO (C : Cx) (cs : List Frame) (m : Machine) : Prop :=
  match C.ro with
  | none => ∃ e w' fr, (∃ v l', e = Ending.returned v ∧ C.R v l' ∧ Own C.w0 w' l') ∧ Comes C.P m (lone fr cs w') e ∧ fr.fn = C.f ∧ fr.leaving C.P w' e
  | some _ => ∀ c cs', cs = c :: cs' → ∃ v w' l', C.R v l' ∧ Own C.w0 w' l' ∧ Steps C.P m (lone (c.finish v) cs' w')

theorem EndsO.of_steps {C : Cx} {cs : List Frame} {m m' : Machine} (hs : Steps C.P m m') (h : EndsO C cs m') : EndsO C cs m := by
  unfold EndsO at *
  split at h
  · obtain ⟨e, w2, fr, hR, hc, hf, hl⟩ := h
    exact ⟨e, w2, fr, hR, .of_steps hs hc, hf, hl⟩
  · intro c cs' hcs
    obtain ⟨v, w', l', hR, ho, hst⟩ := h c cs' hcs
    exact ⟨v, w', l', hR, ho, hs.trans hst⟩

def Goes (C : Cx) (k : List Item) (a : Act) (w : World) : Prop :=
  ∀ (b : Frame) (cs : List Frame), b.fn = C.f → b.kind = .normal → b.roundOf = C.ro → EndsO C cs (lone (b.atR a k) cs w)

theorem Goes.step {C : Cx} {k k' : List Item} {a a' : Act} {w w' : World} (hs : ∀ (b : Frame) cs, Steps C.P (lone (b.atR a k) cs w) (lone (b.atR a' k') cs w')) (h : Goes C k' a' w') : Goes C k a w :=
  fun b cs hb hk hro => .of_steps (hs b cs) (h b cs hb hk hro)

structure FnO (P : Program) (w0 : World) (f : FuncId) (args : List Value) (l : List HProp) (R : Value → List HProp → Prop) : Prop where
  calls : ∀ w, Own w0 w l → Calls P f args.toArray w fun e w' => ∃ v l', e = Ending.returned v ∧ R v l' ∧ Own w0 w' l'

theorem FnO.mono {P : Program} {w0 : World} {f : FuncId} {args : List Value} {l : List HProp} {R R' : Value → List HProp → Prop} (h : FnO P w0 f args l R) (hr : ∀ v l', R v l' → R' v l') : FnO P w0 f args l R' :=
  ⟨fun w hw => (h.calls w hw).mono fun _ _ ⟨v, l', he, hR, ho⟩ => ⟨v, l', he, hr _ _ hR, ho⟩⟩

theorem FnO.conv {P : Program} {w0 : World} {f : FuncId} {args : List Value} {l l' : List HProp} {R : Value → List HProp → Prop} (hl : ∀ w, Own w0 w l → Own w0 w l') (h : FnO P w0 f args l' R) : FnO P w0 f args l R :=
  ⟨fun w hw => h.calls w (hl w hw)⟩

structure J (C : Cx) (k : List Item) (env : Env) (l : List HProp) : Prop where
  go : C.P.funcs[C.f]? = some C.fn → ∀ a w, EnvOk C.n C.ds a env → Own C.w0 w l → Goes C k a w

def argEnv : Nat → List Value → Env
  | _, [] => []
  | i, v :: vs => (i, v) :: argEnv (i + 1) vs

theorem argEnv_get {t : Nat} {v : Value} : ∀ {vs : List Value} {i : Nat}, Env.get (argEnv i vs) t = some v → i ≤ t ∧ vs[t - i]? = some v
  | [], _, h => by simp [argEnv, Env.get] at h
  | u :: vs, i, h => by
    simp only [argEnv, Env.get] at h
    by_cases e : t = i
    · subst e; simp at h; subst h; simp
    · have hb : Nat.beq t i = false := nbeq e
      rw [hb] at h
      simp only [cond_false] at h
      obtain ⟨h1, h2⟩ := argEnv_get h
      refine ⟨by omega, ?_⟩
      have : t - i = (t - (i + 1)) + 1 := by omega
      rw [this]; simpa using h2

theorem FnO.intro {P : Program} {w0 : World} {f : FuncId} {fn : Func} {c : Code} {n : Nat} {args : List Value} {l : List HProp} {R : Value → List HProp → Prop}
    (hf : P.funcs[f]? = some fn) (hb : fn.body = some c) (hnt : fn.ntmps = n) (hn : Nat.ble args.length n = true) (h : J ⟨P, w0, f, fn, n, R, none, []⟩ [.code c] (argEnv 0 args) l) : FnO P w0 f args l R := by
  refine ⟨?_⟩
  intro w hw cs
  let b : Frame := { (default : Frame) with fn := f, kind := .normal, roundOf := none }
  have hn' : args.length ≤ n := by simpa using hn
  have henter : Frame.enter P f args.toArray .normal = b.atR { tmps := args.toArray ++ Array.replicate (fn.ntmps - args.toArray.size) undef, defers := [] } [.code c] := by
    simp [Frame.enter, Frame.atR, hf, hb, b]
  have hok : EnvOk n [] { tmps := args.toArray ++ Array.replicate (fn.ntmps - args.toArray.size) undef, defers := [] } (argEnv 0 args) := by
    refine ⟨by simp [hnt]; omega, rfl, fun t v ht => ?_⟩
    obtain ⟨_, h2⟩ := argEnv_get ht
    have hlt : t < args.length := by
      have := (List.getElem?_eq_some_iff.1 h2).1
      omega
    simp only [Nat.sub_zero] at h2
    rw [Array.getElem?_append_left (by simpa using hlt)]
    simpa using h2
  obtain ⟨e, w', fr, hR, hc, hfr, hl⟩ := h.go hf _ w hok hw b cs rfl rfl rfl
  rw [henter]
  exact ⟨e, w', fr, hR, hc, hfr, hl⟩

section control
variable {C : Cx} {k : List Item} {env : Env} {l : List HProp}

theorem J.step {k' : List Item} (hs : ∀ a w, EnvOk C.n C.ds a env → ∀ (b : Frame) cs, Steps C.P (lone (b.atR a k) cs w) (lone (b.atR a k') cs w)) (h : J C k' env l) : J C k env l :=
  ⟨fun hf a w he ho => Goes.step (hs a w he) (h.go hf a w he ho)⟩

theorem J.seq {x y : Code} (h : J C (.code x :: .code y :: k) env l) : J C (.code (.seq x y) :: k) env l := J.step (fun _ _ _ _ _ => .one stepR_seq) h
theorem J.skip (h : J C k env l) : J C (.code .skip :: k) env l := J.step (fun _ _ _ _ _ => .one stepR_skip) h
theorem J.block {id : Nat} {c : Code} (h : J C (.code c :: .inBlock id :: k) env l) : J C (.code (.block id c) :: k) env l := J.step (fun _ _ _ _ _ => .one stepR_block) h
theorem J.inBlock {id : Nat} (h : J C k env l) : J C (.inBlock id :: k) env l := J.step (fun _ _ _ _ _ => .one stepR_inBlock) h
theorem J.exit {id : Nat} {k' : List Item} (hk : exitTo id k = some k') (h : J C k' env l) : J C (.code (.exit id) :: k) env l := J.step (fun _ _ _ _ _ => .one (stepR_exit hk)) h
theorem J.condT {c : Operand} {x y : Code} (hc : ev env c = some (.bool true)) (h : J C (.code x :: k) env l) : J C (.code (.cond c x y) :: k) env l :=
  J.step (fun _ _ he _ _ => .one (stepR_cond (t := true) (he.ev hc))) h
theorem J.condF {c : Operand} {x y : Code} (hc : ev env c = some (.bool false)) (h : J C (.code y :: k) env l) : J C (.code (.cond c x y) :: k) env l :=
  J.step (fun _ _ he _ _ => .one (stepR_cond (t := false) (he.ev hc))) h
theorem J.cond {c : Operand} {x y : Code} {t : Bool} (hc : ev env c = some (.bool t)) (h1 : t = true → J C (.code x :: k) env l) (h2 : t = false → J C (.code y :: k) env l) : J C (.code (.cond c x y) :: k) env l := by
  cases t
  · exact J.condF hc (h2 rfl)
  · exact J.condT hc (h1 rfl)
theorem J.loop {c : Code} (h : J C (.code c :: .inLoop c :: k) env l) : J C (.code (.loop c) :: k) env l := J.step (fun _ _ _ _ _ => .one stepR_loop) h
theorem J.inLoop {c : Code} (h : J C (.code c :: .inLoop c :: k) env l) : J C (.inLoop c :: k) env l := J.step (fun _ _ _ _ _ => .one stepR_inLoop) h
theorem J.ind {k' : List Item} {σ : Type} (μ : σ → Nat) (I : σ → Prop) (E : σ → Env) (L : σ → List HProp)
    (body : ∀ s, I s → (∀ s', I s' → μ s' < μ s → J C k' (E s') (L s')) → J C k (E s) (L s)) (back : ∀ s, J C k (E s) (L s) → J C k' (E s) (L s)) : ∀ s, I s → J C k (E s) (L s) := by
  have key : ∀ m s, μ s = m → I s → J C k (E s) (L s) := by
    intro m
    induction m using Nat.strongRecOn with
    | _ m ih => exact fun s hm hI => body s hI fun s' hI' hlt => back s' (ih (μ s') (hm ▸ hlt) s' rfl hI')
  exact fun s hI => key _ s rfl hI
theorem J.sub {e : Env} (hs : SubEnv e env) (h : J C k e l) : J C k env l := ⟨fun hf a w he ho => h.go hf a w (he.sub hs) ho⟩
theorem J.conv {l' : List HProp} (hl : ∀ w, Own C.w0 w l → Own C.w0 w l') (h : J C k env l') : J C k env l := ⟨fun hf a w he ho => h.go hf a w he (hl w ho)⟩
theorem J.open {α : Sort _} {p : α → Prop} {l' : α → List HProp} (hl : ∀ w, Own C.w0 w l → ∃ x, p x ∧ Own C.w0 w (l' x)) (h : ∀ x, p x → J C k env (l' x)) : J C k env l :=
  ⟨fun hf a w he ho => let ⟨x, hp, hx⟩ := hl w ho; (h x hp).go hf a w he hx⟩
end control

end Go.Gp

namespace Go.Gp
open Go Go.RowKit

/-! One operation. -/

structure OpP (P : Program) (o : Oper) (env : Env) (v : Value) : Prop where
  run : ∀ ρ : Operand → Value, Rds ρ env o.op.operands → ∀ w, (execOp ρ o).run P w = .ok (.value v) w

structure OpR (P : Program) (w0 : World) (o : Oper) (env : Env) (l : List HProp) (v : Value) : Prop where
  run : ∀ ρ : Operand → Value, Rds ρ env o.op.operands → ∀ w, Own w0 w l → (execOp ρ o).run P w = .ok (.value v) w

/-- It makes or writes memory: some value, some resources. -/
structure OpM (P : Program) (w0 : World) (o : Oper) (env : Env) (l : List HProp) (R : Value → List HProp → Prop) : Prop where
  run : ∀ ρ : Operand → Value, Rds ρ env o.op.operands → ∀ w, Own w0 w l → ∃ nx v w' l', (execOp ρ o).run P w = .ok nx w' ∧ (nx = .value v ∨ nx = .skip ∧ v = undef) ∧ R v l' ∧ Own w0 w' l'

/-- In any case: what stands behind is reached. -/
structure OpW (P : Program) (w0 : World) (o : Oper) (env : Env) (l : List HProp) (R : Value → List HProp → Prop) : Prop where
  run : ∀ a : Act, Rds a.eval env o.op.operands → ∀ w, Own w0 w l → ∀ (K : Act → World → Prop) (Q : Exit → Act → World → Prop), (∀ v w' l', R v l' → Own w0 w' l' → K (a.put o.dst v) w') → o.wp P a w K Q

section
variable {P : Program} {w0 : World} {o : Oper} {env : Env} {l : List HProp} {v : Value} {R : Value → List HProp → Prop}

theorem OpP.r (h : OpP P o env v) : OpR P w0 o env l v := ⟨fun ρ hr w _ => h.run ρ hr w⟩
theorem OpR.m (h : OpR P w0 o env l v) : OpM P w0 o env l (fun u l' => u = v ∧ l' = l) := ⟨fun ρ hr w hw => ⟨_, v, w, l, h.run ρ hr w hw, .inl rfl, ⟨rfl, rfl⟩, hw⟩⟩
theorem OpM.w (h : OpM P w0 o env l R) : OpW P w0 o env l R := by
  refine ⟨?_⟩
  intro a hr w hw K Q hK
  obtain ⟨nx, v, w', l', he, hv, hR, ho⟩ := h.run a.eval hr w hw
  unfold Oper.wp
  rw [he]
  rcases hv with rfl | ⟨rfl, rfl⟩
  · exact hK _ _ _ hR ho
  · exact hK _ _ _ hR ho
end

/-! The same in a round's frame. -/

def wideR (ro : Option Nat) : Fence := { Fence.wide with round := ro }

theorem wideR_room (ro : Option Nat) (n : Nat) : (wideR ro).room n := fun d h => by simp [wideR, Fence.wide] at h

theorem callsIn_wideR {ro : Option Nat} {n : Nat} {P : Program} {f : FuncId} {args : Array Value} {w : World} {R : Ending → World → Prop} : CallsIn (wideR ro) n P f args w R ↔ Calls P f args w R :=
  ⟨fun h => (callsIn_wide (n := n)).1 ⟨trivial, fun cs _ => h.2 cs (wideR_room _ _)⟩, fun h => ⟨trivial, fun cs _ => ((callsIn_wide (n := n)).2 h).2 cs (room_wide _)⟩⟩

theorem OpW.nd {P : Program} {w0 : World} {o : Oper} {env : Env} {l : List HProp} {R : Value → List HProp → Prop} (h : OpW P w0 o env l R) {a : Act} (hr : Rds a.eval env o.op.operands) {w : World} (ho : Own w0 w l) : ∀ c, o.op ≠ .defer c := by
  intro c hc
  have h1 := h.run a hr w ho (fun a' _ => a'.defers = a.defers) (fun _ _ _ => False) (fun v w' l' _ _ => by cases o.dst <;> rfl)
  unfold Oper.wp execOp at h1
  rw [hc] at h1
  simp only [Sem.run_bind] at h1
  cases e : (resolve a.eval c o.type).run P w with
  | ok d w' =>
    rw [e] at h1
    simp only [Result.andThen_ok, Sem.run_pure, Oper.upon] at h1
    have : (d :: a.defers) = a.defers := by cases hd : o.dst <;> simp [Act.put, hd] at h1
    have := congrArg List.length this
    simp at this
  | halt x w' =>
    rw [e] at h1
    cases x <;> simp [Result.andThen, Oper.upon] at h1

theorem OpW.runIn {P : Program} {w0 : World} {o : Oper} {env : Env} {l : List HProp} {R : Value → List HProp → Prop} (h : OpW P w0 o env l R) (ro : Option Nat) (a : Act) (hr : Rds a.eval env o.op.operands) (w : World) (ho : Own w0 w l)
    (K : Act → World → Prop) (Q : Exit → Act → World → Prop) (hK : ∀ v w' l', R v l' → Own w0 w' l' → K (a.put o.dst v) w') : o.wpIn (wideR ro) 0 P a w K Q := by
  refine ⟨fun _ _ => trivial, ?_⟩
  rw [Oper.semAt_eq _ _ _ (h.nd hr ho)]
  have h1 := h.run a hr w ho K Q hK
  unfold Oper.wp at h1
  generalize (execOp a.eval o).run P w = r at *
  cases r with
  | ok nx w' =>
    cases nx <;> simp only [Oper.upon, Oper.uponIn] at h1 ⊢ <;> try exact h1
    case enter f args => exact ⟨fun h => by simp [wideR, Fence.wide] at h, callsIn_wideR.2 h1⟩
    case row row args =>
      refine ⟨fun h => by simp [wideR, Fence.wide] at h, fun c cs _ => ?_⟩
      obtain ⟨v, w2, hR, hs⟩ := h1 c cs
      exact ⟨v, w2, hR, stepsIn_wide.2 hs⟩
  | halt x w' =>
    cases x <;> simp only [Oper.upon, Oper.uponIn] at h1 ⊢ <;> exact h1

/-! A region in the text's order. -/

def QN (C : Cx) (k : List Item) : Exit → Act → World → Prop := fun e a w => e = .normal ∧ Goes C k a w

structure JL (C : Cx) (ops rest : List Oper) (k : List Item) (env : Env) (l : List HProp) : Prop where
  go : C.P.funcs[C.f]? = some C.fn → ∀ a w, EnvOk C.n C.ds a env → Own C.w0 w l → wpListIn (wideR C.ro) 0 C.P ops.toArray (QN C k) rest a w

def Gd (ops : List Oper) (env : Env) : Option (Nat × Bool) → Option Bool
  | none => some true
  | some (j, want) => match ops[j]? with
    | some o => (match o.dst with
      | some t => (match Env.get env t with
        | some (.bool c) => some (bif want then c else not c)
        | some (.tuple _) => some false
        | _ => none)
      | none => none)
    | none => none

theorem Gd.wanted {ops : List Oper} {env : Env} {o : Oper} {n : Nat} {ds : List Deferred} {a : Act} {b : Bool} (he : EnvOk n ds a env) (h : Gd ops env o.guard = some b) : Region.wanted o (yielded ops.toArray a.tmps) = b := by
  unfold Region.wanted
  cases hg : o.guard with
  | none => simp only [hg, Gd] at h; simpa using h
  | some g =>
    obtain ⟨j, want⟩ := g
    simp only [hg, Gd] at h ⊢
    cases ho : ops[j]? with
    | none => simp [ho] at h
    | some o' =>
      simp only [ho] at h
      cases hd : o'.dst with
      | none => simp [hd] at h
      | some t =>
        simp only [hd] at h
        cases ht : Env.get env t with
        | none => simp [ht] at h
        | some u =>
          simp only [ht] at h
          have hu := he.get t u ht
          cases u <;> simp at h
          case bool c => subst h; simp [yielded, ho, hd, hu]; cases want <;> cases c <;> rfl
          case tuple vs => subst h; simp [yielded, ho, hd, hu]

theorem J.region {C : Cx} {k : List Item} {env : Env} {l : List HProp} {id : Nat} {ops : List Oper} (h : JL C ops ops k env l) : J C (.code (.region id ops.toArray false) :: k) env l := by
  refine ⟨?_⟩
  intro hf a w he ho b cs hb hk hro
  obtain ⟨e, a', w', ⟨rfl, hq⟩, harr⟩ := wpIn_region_lit (F := wideR C.ro) (n := 0) (P := C.P) (id := id) (h.go hf a w he ho) b k cs hro trivial (wideR_room _ _)
  exact .of_steps (StepsIn.steps harr) (hq b cs hb hk hro)

section
variable {C : Cx} {ops rest : List Oper} {o : Oper} {k : List Item} {env : Env} {l : List HProp} {v : Value} {R : Value → List HProp → Prop}

theorem JL.nil (h : J C k env l) : JL C ops [] k env l := ⟨fun hf a w he ho => ⟨rfl, h.go hf a w he ho⟩⟩

theorem JL.skipG (hg : Gd ops env o.guard = some false) (hd : okd o.dst C.n = true) (h : JL C ops rest k (putd o.dst undef env) l) : JL C ops (o :: rest) k env l := by
  refine ⟨?_⟩
  intro hf a w he ho
  unfold wpListIn
  rw [Gd.wanted he hg, if_neg (by simp)]
  exact ⟨fun _ _ => trivial, h.go hf _ w (he.put hd _) ho⟩

theorem JL.stepG (hg : Gd ops env o.guard = some true) (hd : okd o.dst C.n = true) (hop : OpW C.P C.w0 o env l R) (h : ∀ v l', R v l' → JL C ops rest k (putd o.dst v env) l') : JL C ops (o :: rest) k env l := by
  refine ⟨?_⟩
  intro hf a w he ho
  unfold wpListIn
  rw [Gd.wanted he hg, if_pos rfl]
  exact hop.runIn _ a (he.rds _) w ho _ _ fun v w' l' hR ho' => (h v l' hR).go hf _ w' (he.put hd v) ho'

variable {d : Tmp} {op : Op} {ty : TypeId} {pos : String} {after : Array Edge} {g : Option (Nat × Bool)}

theorem JL.skip (hg : Gd ops env g = some false) (hd : Nat.blt d C.n = true) (h : JL C ops rest k ((d, undef) :: env) l) : JL C ops (⟨some d, op, ty, pos, after, g⟩ :: rest) k env l := JL.skipG hg hd h
theorem JL.skip0 (hg : Gd ops env g = some false) (h : JL C ops rest k env l) : JL C ops (⟨none, op, ty, pos, after, g⟩ :: rest) k env l := JL.skipG hg rfl h
theorem JL.step (hg : Gd ops env g = some true) (hd : Nat.blt d C.n = true) (hop : OpW C.P C.w0 ⟨some d, op, ty, pos, after, g⟩ env l R) (h : ∀ v l', R v l' → JL C ops rest k ((d, v) :: env) l') : JL C ops (⟨some d, op, ty, pos, after, g⟩ :: rest) k env l := JL.stepG hg hd hop h
theorem JL.step0 (hg : Gd ops env g = some true) (hop : OpW C.P C.w0 ⟨none, op, ty, pos, after, g⟩ env l R) (h : ∀ v l', R v l' → JL C ops rest k env l') : JL C ops (⟨none, op, ty, pos, after, g⟩ :: rest) k env l := JL.stepG hg rfl hop h
theorem JL.read (hg : Gd ops env g = some true) (hd : Nat.blt d C.n = true) (hop : OpR C.P C.w0 ⟨some d, op, ty, pos, after, g⟩ env l v) (h : JL C ops rest k ((d, v) :: env) l) : JL C ops (⟨some d, op, ty, pos, after, g⟩ :: rest) k env l :=
  JL.step hg hd hop.m.w fun _ _ ⟨h1, h2⟩ => by subst h1; subst h2; exact h
theorem JL.pure (hg : Gd ops env g = some true) (hd : Nat.blt d C.n = true) (hop : OpP C.P ⟨some d, op, ty, pos, after, g⟩ env v) (h : JL C ops rest k ((d, v) :: env) l) : JL C ops (⟨some d, op, ty, pos, after, g⟩ :: rest) k env l :=
  JL.read hg hd hop.r h
theorem JL.mem (hg : Gd ops env g = some true) (hd : Nat.blt d C.n = true) (hop : OpM C.P C.w0 ⟨some d, op, ty, pos, after, g⟩ env l R) (h : ∀ v l', R v l' → JL C ops rest k ((d, v) :: env) l') : JL C ops (⟨some d, op, ty, pos, after, g⟩ :: rest) k env l :=
  JL.step hg hd hop.w h
theorem JL.mem0 (hg : Gd ops env g = some true) (hop : OpM C.P C.w0 ⟨none, op, ty, pos, after, g⟩ env l R) (h : ∀ v l', R v l' → JL C ops rest k env l') : JL C ops (⟨none, op, ty, pos, after, g⟩ :: rest) k env l :=
  JL.step0 hg hop.w h

theorem JL.conv {l' : List HProp} (hl : ∀ w, Own C.w0 w l → Own C.w0 w l') (h : JL C ops rest k env l') : JL C ops rest k env l := ⟨fun hf a w he ho => h.go hf a w he (hl w ho)⟩
theorem JL.open {α : Sort _} {p : α → Prop} {l' : α → List HProp} (hl : ∀ w, Own C.w0 w l → ∃ x, p x ∧ Own C.w0 w (l' x)) (h : ∀ x, p x → JL C ops rest k env (l' x)) : JL C ops rest k env l :=
  ⟨fun hf a w he ho => let ⟨x, hp, hx⟩ := hl w ho; (h x hp).go hf a w he hx⟩

/-! A call of a named function. -/
class CalleeOk (P : Program) (f : FuncId) : Prop where
  calls : ∀ args w, (callFunc f args).run P w = .ok (.enter f args) w

theorem CalleeOk.mk' {P : Program} {f : FuncId} {fn : Func} (h : P.funcs[f]? = some fn) (hb : fn.body.isSome = true) (hn : (fn.name == "runtime.NumGoroutine") = false) : CalleeOk P f := by
  refine ⟨fun args w => ?_⟩
  have hn' : ¬ fn.name = "runtime.NumGoroutine" := by simpa using hn
  cases e : fn.body with
  | none => simp [e] at hb
  | some c => simp [callFunc, h, e, hn']

theorem OpW.call {P : Program} {w0 : World} {dst : Option Tmp} {ty : TypeId} {pos : String} {after : Array Edge} {g : Option (Nat × Bool)} {f : Operand} {args : List Operand} {tys : Array TypeId} {fid : FuncId} {first captured : List Value} {vs : List Value}
    (hc : CalleeOk P fid) (hf : ev env f = some (.func (.func fid) first.toArray captured.toArray)) (ha : evs env args = some vs) (h : FnO P w0 fid (first ++ (vs ++ captured)) l R) :
    OpW P w0 ⟨dst, .call ⟨.value f, args.toArray, tys⟩, ty, pos, after, g⟩ env l R := by
  refine ⟨?_⟩
  intro a hr w hw K Q hK
  have hf' : a.eval f = _ := hr f (by simp [Op.operands, Call.operands]) _ hf
  have ha' : args.map a.eval = vs := Rds.evs (fun x hx => hr x (by simp [Op.operands, Call.operands, hx])) ha
  have hrun : (execOp a.eval ⟨dst, .call ⟨.value f, args.toArray, tys⟩, ty, pos, after, g⟩).run P w = .ok (.enter fid (first ++ (vs ++ captured)).toArray) w := by
    simp only [execOp, resolve, hf', Deferred.ofValue, List.map_toArray, ha']
    have := hc.calls (first ++ (vs ++ captured)).toArray w
    simp [invoke, this]
  unfold Oper.wp
  rw [hrun]
  simp only [Oper.upon_enter]
  refine (h.calls w hw).mono fun e w' ⟨v, l', he, hR, ho⟩ => ?_
  subst he
  exact hK v w' l' hR ho
end

/-! The end of a function. -/
def tupled : List Value → Value
  | [v] => v
  | vs => .tuple vs.toArray

/-- What the results read as, in every world with these resources. -/
def ResOk (C : Cx) (env : Env) (l : List HProp) (v : Value) : Prop :=
  ∀ a w, EnvOk C.n C.ds a env → Own C.w0 w l → (results C.fn a.tmps).run C.P w = .ok v w

inductive ResVals (P : Program) (w0 : World) (env : Env) (l : List HProp) : List ResultVar → List Value → Prop where
  | nil : ResVals P w0 env l [] []
  | tmp {t : Tmp} {v : Value} {xs : List ResultVar} {vs : List Value} (h : Env.get env t = some v) (hs : ResVals P w0 env l xs vs) : ResVals P w0 env l (.tmp t :: xs) (v :: vs)
  | cell {t : Tmp} {ty : TypeId} {ad : Addr} {v : Value} {xs : List ResultVar} {vs : List Value} (h : Env.get env t = some (.pointer (some ad))) (hl : ∀ w, Own w0 w l → (loadVar ty ad).run P w = .ok v w) (hs : ResVals P w0 env l xs vs) : ResVals P w0 env l (.cell t ty :: xs) (v :: vs)

def resOne (tmps : Array Value) : ResultVar → Sem Value
  | .tmp t => Pure.pure (tmps.getD t undef)
  | .cell b t => asAddr (tmps.getD b undef) >>= fun ad => loadVar t ad

theorem results_eq (fn : Func) (tmps : Array Value) : results fn tmps = (do let vs ← fn.results.mapM (resOne tmps); Pure.pure (if h : vs.size = 1 then vs[0] else .tuple vs)) := by
  unfold results
  congr 1

theorem ResVals.run {P : Program} {w0 : World} {env : Env} {l : List HProp} {n : Nat} {ds : List Deferred} {a : Act} {w : World} (he : EnvOk n ds a env) (ho : Own w0 w l) : ∀ {xs : List ResultVar} {vs : List Value}, ResVals P w0 env l xs vs →
    (xs.mapM (resOne a.tmps)).run P w = .ok vs w
  | _, _, .nil => by simp
  | _, _, .tmp h hs => by
    have ih := ResVals.run he ho hs
    simp only [List.mapM_cons, Sem.run_bind]
    have h1 := he.get _ _ h
    simp only [resOne, Sem.run_pure, Result.andThen_ok, ih]
    simp [h1]
  | _, _, .cell h hl hs => by
    have ih := ResVals.run he ho hs
    simp only [List.mapM_cons, Sem.run_bind]
    have h1' := he.get _ _ h
    have e : ∀ (t : Tmp) (ty : TypeId) (ad : Addr), a.tmps[t]? = some (Value.pointer (some ad)) → (resOne a.tmps (.cell t ty)) = loadVar ty ad := fun t ty ad hh => by
      simp only [resOne, show a.tmps.getD t undef = .pointer (some ad) from by simp [hh]]
      rfl
    rw [e _ _ _ h1']
    simp only [Sem.run_pure, Result.andThen_ok, hl w ho, ih]

theorem ResOk.of {C : Cx} {env : Env} {l : List HProp} {xs : List ResultVar} {vs : List Value} (hx : C.fn.results = xs.toArray) (h : ResVals C.P C.w0 env l xs vs) : ResOk C env l (tupled vs) := by
  intro a w he ho
  have hr := ResVals.run he ho h
  rw [results_eq, hx]
  simp only [List.mapM_toArray, Sem.run_bind, Sem.run_map]
  rw [hr]
  simp only [Result.andThen_ok, Sem.run_pure]
  congr 1
  match vs with
  | [] => simp [tupled]
  | [v] => simp [tupled]
  | v :: u :: vs => simp [tupled]

theorem J.ret {C : Cx} {k : List Item} {env : Env} {l : List HProp} {v : Value} (hr : ResOk C env l v) (h : C.R v l) (hout : C.ro = none ∧ C.ds = [] := by exact ⟨rfl, rfl⟩) : J C (.code .ret :: k) env l := by
  refine ⟨?_⟩
  intro hf a w he ho b cs hb hk hro
  rw [hout.1] at hro
  unfold EndsO
  rw [hout.1]
  refine ⟨.returned v, w, { b.atR a (.code .ret :: k) with mode := .returning }, ⟨v, l, rfl, h, ho⟩, ?_, hb, rfl, ?_, hk, C.fn, ?_, hr a w he ho⟩
  · exact Steps.one (stepR_ret hro)
  · exact he.defers.trans hout.2
  · show C.P.funcs[b.fn]? = _
    rw [hb]; exact hf

theorem J.fin {C : Cx} {env : Env} {l : List HProp} {v : Value} (hr : ResOk C env l v) (h : C.R v l) (hout : C.ro = none ∧ C.ds = [] := by exact ⟨rfl, rfl⟩) : J C [] env l := by
  refine ⟨?_⟩
  intro hf a w he ho b cs hb hk hro
  rw [hout.1] at hro
  unfold EndsO
  rw [hout.1]
  refine ⟨.returned v, w, { b.atR a [] with mode := .returning }, ⟨v, l, rfl, h, ho⟩, ?_, hb, rfl, ?_, hk, C.fn, ?_, hr a w he ho⟩
  · exact Steps.one (stepR_end hro)
  · exact he.defers.trans hout.2
  · show C.P.funcs[b.fn]? = _
    rw [hb]; exact hf

end Go.Gp

namespace Go.Gp
open Go Go.RowKit

/-! What the program's table of types says, computed. -/

def oneB (P : Program) (t : TypeId) : Bool :=
  match P.underlying t, P.info? t with
  | some (.struct _), _ => false
  | some (.array _ _), _ => false
  | some _, some i => i.size == 1
  | _, _ => false

def aggN (P : Program) (t : TypeId) : Option Nat :=
  match P.underlying t, P.info? t with
  | some (.struct _), some i => some i.size
  | some (.array _ _), some i => some i.size
  | _, _ => none

def slI (P : Program) (t : TypeId) : Option (TypeId × Nat × Nat) :=
  match P.underlying t with
  | some (.slice e) => (match P.info? e with
    | some i => if i.size = 0 then none else some (e, i.size, i.bytes)
    | none => none)
  | _ => none

def arI (P : Program) (t : TypeId) : Option (Nat × TypeId × Nat) :=
  match P.underlying t with
  | some (.array n e) => (match P.info? e with
    | some i => if i.size = 0 then none else some (n, e, i.size)
    | none => none)
  | _ => none

def fldO (P : Program) (s : TypeId) (f : Nat) : Option (Nat × TypeId) :=
  match P.underlying s with
  | some (.struct fs) => (match fs[f]? with
    | some fd => (match P.info? fd.type with
      | some i => if i.size = 0 then none else some (fd.offset, fd.type)
      | none => none)
    | none => none)
  | _ => none

def zeroL (P : Program) (t : TypeId) : Option (List Value) :=
  match P.info? t with
  | some i => i.zero.map (·.cells.toList)
  | none => none

class One (P : Program) (t : TypeId) : Prop where
  h : oneB P t = true
class Agg (P : Program) (t : TypeId) (n : outParam Nat) : Prop where
  h : aggN P t = some n
class Sl (P : Program) (t : TypeId) (e : outParam TypeId) (sz by_ : outParam Nat) : Prop where
  h : slI P t = some (e, sz, by_)
class Ar (P : Program) (t : TypeId) (n : outParam Nat) (e : outParam TypeId) (sz : outParam Nat) : Prop where
  h : arI P t = some (n, e, sz)
class Fld (P : Program) (s : TypeId) (f : Nat) (off : outParam Nat) (ft : outParam TypeId) : Prop where
  h : fldO P s f = some (off, ft)
class Zr (P : Program) (t : TypeId) (z : outParam (List Value)) : Prop where
  h : zeroL P t = some z
class StrT (P : Program) (t : TypeId) : Prop where
  h : P.underlying t = some .string
class BoolT (P : Program) (t : TypeId) : Prop where
  h : P.underlying t = some .bool
class IntT (P : Program) (t : TypeId) (k : outParam IntKind) : Prop where
  h : P.underlying t = some (.int k)
class PtrT (P : Program) (t : TypeId) (e : outParam TypeId) : Prop where
  h : P.underlying t = some (.pointer e)

section
variable {P : Program} {t : TypeId} {n : Nat} (w : World)

theorem run_isAgg_one [h : One P t] : (isAgg t).run P w = .ok false w := by
  have h := h.h
  unfold oneB at h
  cases e : P.underlying t with
  | none => simp [e] at h
  | some d => cases d <;> simp [e] at h <;> simp [isAgg, run_underlying e]

theorem run_sizeOf_one [h : One P t] : (sizeOf t).run P w = .ok 1 w := by
  have h := h.h
  unfold oneB at h
  cases e : P.underlying t with
  | none => simp [e] at h
  | some d =>
    cases ei : P.info? t with
    | none => cases d <;> simp [e, ei] at h
    | some i => cases d <;> simp [e, ei] at h <;> simp [sizeOf, typeInfo, ei, h]

theorem run_isAgg_agg [h : Agg P t n] : (isAgg t).run P w = .ok true w := by
  have h := h.h
  unfold aggN at h
  cases e : P.underlying t with
  | none => simp [e] at h
  | some d => cases d <;> simp [e] at h <;> simp [isAgg, run_underlying e]

theorem run_sizeOf_agg [h : Agg P t n] : (sizeOf t).run P w = .ok n w := by
  have h := h.h
  unfold aggN at h
  cases e : P.underlying t with
  | none => simp [e] at h
  | some d =>
    cases ei : P.info? t with
    | none => cases d <;> simp [e, ei] at h
    | some i => cases d <;> simp [e, ei] at h <;> simp [sizeOf, typeInfo, ei, h]

theorem Sl.und {e : TypeId} {sz b : Nat} (h : Sl P t e sz b) : P.underlying t = some (.slice e) := by
  have h := h.h
  unfold slI at h
  cases e' : P.underlying t with
  | none => simp [e'] at h
  | some d =>
    cases d <;> simp [e'] at h
    case slice e2 =>
      cases ei : P.info? e2 with
      | none => simp [ei] at h
      | some i => simp [ei] at h; obtain ⟨_, rfl, _⟩ := h; rfl

theorem Sl.inf {e : TypeId} {sz b : Nat} (h : Sl P t e sz b) : ∃ i, P.info? e = some i ∧ i.size = sz ∧ i.bytes = b ∧ 0 < sz := by
  have h := h.h
  unfold slI at h
  cases e' : P.underlying t with
  | none => simp [e'] at h
  | some d =>
    cases d <;> simp [e'] at h
    case slice e2 =>
      cases ei : P.info? e2 with
      | none => simp [ei] at h
      | some i => simp [ei] at h; obtain ⟨h0, rfl, rfl, rfl⟩ := h; exact ⟨i, ei, rfl, rfl, Nat.pos_of_ne_zero h0⟩

theorem Ar.und {e : TypeId} {n sz : Nat} (h : Ar P t n e sz) : P.underlying t = some (.array n e) := by
  have h := h.h
  unfold arI at h
  cases e' : P.underlying t with
  | none => simp [e'] at h
  | some d =>
    cases d <;> simp [e'] at h
    case array n2 e2 =>
      cases ei : P.info? e2 with
      | none => simp [ei] at h
      | some i => simp [ei] at h; obtain ⟨_, rfl, rfl, _⟩ := h; rfl

theorem Ar.inf {e : TypeId} {n sz : Nat} (h : Ar P t n e sz) : ∃ i, P.info? e = some i ∧ i.size = sz ∧ 0 < sz := by
  have h := h.h
  unfold arI at h
  cases e' : P.underlying t with
  | none => simp [e'] at h
  | some d =>
    cases d <;> simp [e'] at h
    case array n2 e2 =>
      cases ei : P.info? e2 with
      | none => simp [ei] at h
      | some i => simp [ei] at h; obtain ⟨h0, rfl, rfl, rfl⟩ := h; exact ⟨i, ei, rfl, Nat.pos_of_ne_zero h0⟩

theorem Fld.out {f off : Nat} {ft : TypeId} (h : Fld P t f off ft) : ∃ fs fd i, P.underlying t = some (.struct fs) ∧ fs[f]? = some fd ∧ fd.offset = off ∧ fd.type = ft ∧ P.info? ft = some i ∧ i.size ≠ 0 := by
  have h := h.h
  unfold fldO at h
  cases e' : P.underlying t with
  | none => simp [e'] at h
  | some d =>
    cases d <;> simp [e'] at h
    case struct fs =>
      cases ef : fs[f]? with
      | none => simp [ef] at h
      | some fd =>
        simp [ef] at h
        cases ei : P.info? fd.type with
        | none => simp [ei] at h
        | some i => simp [ei] at h; obtain ⟨h0, rfl, rfl⟩ := h; exact ⟨fs, fd, i, rfl, ef, rfl, rfl, ei, h0⟩

theorem Zr.out {z : List Value} (h : Zr P t z) : ∃ i v, P.info? t = some i ∧ i.zero = some v ∧ v.cells = z.toArray := by
  have h := h.h
  unfold zeroL at h
  cases ei : P.info? t with
  | none => simp [ei] at h
  | some i =>
    cases ez : i.zero with
    | none => simp [ei, ez] at h
    | some v => simp [ei, ez] at h; exact ⟨i, v, rfl, ez, by rw [← h]⟩

theorem run_zeroValue {z : List Value} (h : Zr P t z) : ∃ v, (∀ w, (zeroValue t).run P w = .ok v w) ∧ v.cells = z.toArray := by
  obtain ⟨i, v, hi, hz, hc⟩ := h.out
  exact ⟨v, fun w => by simp [zeroValue, typeInfo, hi, hz], hc⟩

theorem run_sizeOf_info {i : TypeInfo} (hi : P.info? t = some i) : (sizeOf t).run P w = .ok i.size w := by simp [sizeOf, typeInfo, hi]
end

/-! Operations that look at no memory. -/
section
variable {P : Program} {env : Env} {dst : Option Tmp} {ty : TypeId} {pos : String} {after : Array Edge} {g : Option (Nat × Bool)}

theorem OpP.move {x : Operand} {v : Value} (hx : ev env x = some v) : OpP P ⟨dst, .move x, ty, pos, after, g⟩ env v := by
  refine ⟨?_⟩
  intro ρ hr w
  have := hr x (by simp [Op.operands]) v hx
  simp [execOp, this]

theorem OpP.assign {x : Operand} {v : Value} (hx : ev env x = some v) : OpP P ⟨dst, .assign x, ty, pos, after, g⟩ env v := by
  refine ⟨?_⟩
  intro ρ hr w
  have := hr x (by simp [Op.operands]) v hx
  simp [execOp, this]

theorem OpP.pickT {c x y : Operand} {v : Value} (hc : ev env c = some (.bool true)) (hx : ev env x = some v) : OpP P ⟨dst, .pick c x y, ty, pos, after, g⟩ env v := by
  refine ⟨?_⟩
  intro ρ hr w
  have h1 := hr c (by simp [Op.operands]) _ hc
  have h2 := hr x (by simp [Op.operands]) _ hx
  simp [execOp, h1, h2, asBool]

theorem OpP.pickF {c x y : Operand} {v : Value} (hc : ev env c = some (.bool false)) (hy : ev env y = some v) : OpP P ⟨dst, .pick c x y, ty, pos, after, g⟩ env v := by
  refine ⟨?_⟩
  intro ρ hr w
  have h1 := hr c (by simp [Op.operands]) _ hc
  have h2 := hr y (by simp [Op.operands]) _ hy
  simp [execOp, h1, h2, asBool]

theorem OpP.nilCheck {x : Operand} {a : Addr} (hx : ev env x = some (.pointer (some a))) : OpP P ⟨dst, .nilCheck x, ty, pos, after, g⟩ env (.pointer (some a)) := by
  refine ⟨?_⟩
  intro ρ hr w
  have := hr x (by simp [Op.operands]) _ hx
  simp [execOp, this]

theorem OpP.nilCheckFn {x : Operand} {f : FuncId} {a b : Array Value} (hx : ev env x = some (.func (.func f) a b)) : OpP P ⟨dst, .nilCheck x, ty, pos, after, g⟩ env (.func (.func f) a b) := by
  refine ⟨?_⟩
  intro ρ hr w
  have := hr x (by simp [Op.operands]) _ hx
  simp [execOp, this]

theorem OpP.fieldAddr {x : Operand} {s f off ft : Nat} {b o : Nat} [hf : Fld P s f off ft] (hx : ev env x = some (.pointer (some ⟨b, o, none⟩))) : OpP P ⟨dst, .fieldAddr s x f, ty, pos, after, g⟩ env (.pointer (some ⟨b, o + off, none⟩)) := by
  refine ⟨?_⟩
  intro ρ hr w
  have := hr x (by simp [Op.operands]) _ hx
  obtain ⟨fs, fd, i, h1, h2, h3, h4, h5, h6⟩ := hf.out
  have hadd : (⟨b, o, none⟩ : Addr).add off = ⟨b, o + off, none⟩ := by unfold Addr.add; split <;> simp_all
  simp [execOp, this, Instr.fieldAt, run_underlying h1, h2, Instr.sureAddr, fieldPlace, h4, run_sizeOf_info w h5, h6, h3, hadd]

theorem OpP.field1 {x : Operand} {s f off ft : Nat} {cs : Array Value} {v : Value} [hf : Fld P s f off ft] [One P ft] (hx : ev env x = some (.agg cs)) (hv : cs.toList[off]? = some v) : OpP P ⟨dst, .field s x f, ty, pos, after, g⟩ env v := by
  refine ⟨?_⟩
  intro ρ hr w
  have := hr x (by simp [Op.operands]) _ hx
  obtain ⟨fs, fd, i, h1, h2, h3, h4, h5, h6⟩ := hf.out
  have hv' : cs[off]? = some v := by simpa using hv
  simp [execOp, this, Instr.field, run_underlying h1, h2, asAgg, part, h4, run_isAgg_one, h3, hv']

theorem OpP.fieldN {x : Operand} {s f off ft n : Nat} {cs : Array Value} {vs : List Value} [hf : Fld P s f off ft] [Agg P ft n] (hx : ev env x = some (.agg cs)) (hv : (cs.toList.drop off).take n = vs) : OpP P ⟨dst, .field s x f, ty, pos, after, g⟩ env (.agg vs.toArray) := by
  refine ⟨?_⟩
  intro ρ hr w
  have := hr x (by simp [Op.operands]) _ hx
  obtain ⟨fs, fd, i, h1, h2, h3, h4, h5, h6⟩ := hf.out
  have e : cs.extract off (off + n) = vs.toArray := by
    apply Array.ext'
    simp [List.extract_eq_take_drop, ← hv]
  simp [execOp, this, Instr.field, run_underlying h1, h2, asAgg, part, h4, run_isAgg_agg, run_sizeOf_agg, h3, e]

theorem OpP.extract {x : Operand} {vs : Array Value} {i : Nat} {v : Value} (hx : ev env x = some (.tuple vs)) (hv : vs.toList[i]? = some v) : OpP P ⟨dst, .extract x i, ty, pos, after, g⟩ env v := by
  refine ⟨?_⟩
  intro ρ hr w
  have := hr x (by simp [Op.operands]) _ hx
  have hv' : vs[i]? = some v := by simpa using hv
  simp [execOp, this, Instr.extract, hv']

theorem addr_add (b o n : Nat) : (⟨b, o, none⟩ : Addr).add n = ⟨b, o + n, none⟩ := by unfold Addr.add; split <;> simp_all

theorem OpP.indexAddr {x i : Operand} {t e sz by_ b o len cap : Nat} {k : IntKind} {j : Int} [hs : Sl P t e sz by_] (hx : ev env x = some (.slice (some ⟨b, o, none⟩) len cap)) (hi : ev env i = some (.int k j)) (h0 : 0 ≤ j) (h1 : j < len) :
    OpP P ⟨dst, .indexAddr t x i, ty, pos, after, g⟩ env (.pointer (some ⟨b, o + j.toNat * sz, none⟩)) := by
  refine ⟨?_⟩
  intro ρ hr w
  have hx' := hr x (by simp [Op.operands]) _ hx
  have hi' := hr i (by simp [Op.operands]) _ hi
  obtain ⟨inf, h2, h3, h4, h5⟩ := hs.inf
  simp [execOp, hx', hi', Instr.indexAt, asIntOf, run_underlying hs.und, h0, h1, run_sizeOf_info w h2, h3, addr_add]

theorem OpP.indexAddrA {x i : Operand} {t e sz n b o : Nat} {k : IntKind} {j : Int} [hs : Ar P t n e sz] (hx : ev env x = some (.pointer (some ⟨b, o, none⟩))) (hi : ev env i = some (.int k j)) (h0 : 0 ≤ j) (h1 : j < n) :
    OpP P ⟨dst, .indexAddr t x i, ty, pos, after, g⟩ env (.pointer (some ⟨b, o + j.toNat * sz, none⟩)) := by
  refine ⟨?_⟩
  intro ρ hr w
  have hx' := hr x (by simp [Op.operands]) _ hx
  have hi' := hr i (by simp [Op.operands]) _ hi
  obtain ⟨inf, h2, h3, h5⟩ := hs.inf
  simp [execOp, hx', hi', Instr.indexAt, asIntOf, run_underlying hs.und, Instr.sureAddr, h0, h1, run_sizeOf_info w h2, h3, addr_add]

theorem OpP.indexStr {x i : Operand} {t : Nat} {k : IntKind} {j : Int} {s : ByteArray} {c : UInt8} [hs : StrT P t] (hx : ev env x = some (.string s)) (hi : ev env i = some (.int k j)) (h0 : 0 ≤ j) (h1 : s[j.toNat]? = some c) :
    OpP P ⟨dst, .index t x i, ty, pos, after, g⟩ env (.int .u8 c.toNat) := by
  refine ⟨?_⟩
  intro ρ hr w
  have hx' := hr x (by simp [Op.operands]) _ hx
  have hi' := hr i (by simp [Op.operands]) _ hi
  simp [execOp, hx', hi', Instr.index, asIntOf, run_underlying hs.h, h0, h1]

theorem OpP.indexArr1 {x i : Operand} {t e sz n : Nat} {k : IntKind} {j : Int} {cs : Array Value} {v : Value} [hs : Ar P t n e sz] [One P e] (hx : ev env x = some (.agg cs)) (hi : ev env i = some (.int k j)) (h0 : 0 ≤ j) (h1 : j < n) (hv : cs.toList[j.toNat]? = some v) :
    OpP P ⟨dst, .index t x i, ty, pos, after, g⟩ env v := by
  refine ⟨?_⟩
  intro ρ hr w
  have hx' := hr x (by simp [Op.operands]) _ hx
  have hi' := hr i (by simp [Op.operands]) _ hi
  have hsz := run_sizeOf_one (P := P) (t := e) w
  have hv' : cs[j.toNat]? = some v := by simpa using hv
  simp [execOp, hx', hi', Instr.index, asIntOf, run_underlying hs.und, h0, h1, hsz, part, run_isAgg_one, hv']

theorem OpP.len {x : Operand} {tys : Array TypeId} {t e sz by_ : Nat} {ts : List TypeId} {a : Option Addr} {n cap : Nat} [hs : Sl P t e sz by_] (_ht : tys = (t :: ts).toArray) (hx : ev env x = some (.slice a n cap)) :
    OpP P ⟨dst, .call ⟨.builtin .len, #[x], tys⟩, ty, pos, after, g⟩ env (.int .i64 n) := by
  refine ⟨?_⟩
  intro ρ hr w
  have hx' := hr x (by simp [Op.operands, Call.operands]) _ hx
  subst _ht
  simp [execOp, resolve, hx', invoke, builtin, Builtin.len_, run_underlying hs.und, goInt]

theorem OpP.lenStr {x : Operand} {tys : Array TypeId} {t : Nat} {ts : List TypeId} {s : ByteArray} [hs : StrT P t] (_ht : tys = (t :: ts).toArray) (hx : ev env x = some (.string s)) :
    OpP P ⟨dst, .call ⟨.builtin .len, #[x], tys⟩, ty, pos, after, g⟩ env (.int .i64 s.size) := by
  refine ⟨?_⟩
  intro ρ hr w
  have hx' := hr x (by simp [Op.operands, Call.operands]) _ hx
  subst _ht
  simp [execOp, resolve, hx', invoke, builtin, Builtin.len_, run_underlying hs.h, goInt]

theorem OpP.lenArr {x : Operand} {tys : Array TypeId} {t n e sz : Nat} {ts : List TypeId} {v : Value} [hs : Ar P t n e sz] (_ht : tys = (t :: ts).toArray) (hx : ev env x = some v) :
    OpP P ⟨dst, .call ⟨.builtin .len, #[x], tys⟩, ty, pos, after, g⟩ env (.int .i64 n) := by
  refine ⟨?_⟩
  intro ρ hr w
  have hx' := hr x (by simp [Op.operands, Call.operands]) _ hx
  subst _ht
  cases v <;> simp [execOp, resolve, hx', invoke, builtin, Builtin.len_, run_underlying hs.und, goInt]

theorem OpP.max {x y : Operand} {tys : Array TypeId} {k : IntKind} {a b : Int} (hx : ev env x = some (.int k a)) (hy : ev env y = some (.int k b)) :
    OpP P ⟨dst, .call ⟨.builtin .max, #[x, y], tys⟩, ty, pos, after, g⟩ env (.int k (max a b)) := by
  refine ⟨?_⟩
  intro ρ hr w
  have hx' := hr x (by simp [Op.operands, Call.operands]) _ hx
  have hy' := hr y (by simp [Op.operands, Call.operands]) _ hy
  have e : (if b > a then b else a) = Max.max a b := by simp only [Int.max_def]; split <;> split <;> omega
  simp [execOp, resolve, hx', hy', invoke, builtin, run_max_int2, ← e]

theorem OpP.min {x y : Operand} {tys : Array TypeId} {k : IntKind} {a b : Int} (hx : ev env x = some (.int k a)) (hy : ev env y = some (.int k b)) :
    OpP P ⟨dst, .call ⟨.builtin .min, #[x, y], tys⟩, ty, pos, after, g⟩ env (.int k (min a b)) := by
  refine ⟨?_⟩
  intro ρ hr w
  have hx' := hr x (by simp [Op.operands, Call.operands]) _ hx
  have hy' := hr y (by simp [Op.operands, Call.operands]) _ hy
  have e : (if b < a then b else a) = Min.min a b := by simp only [Int.min_def]; split <;> split <;> omega
  simp [execOp, resolve, hx', hy', invoke, builtin, run_min_int2, ← e]

theorem OpP.notB {x : Operand} {t : TypeId} {b : Bool} (hx : ev env x = some (.bool b)) : OpP P ⟨dst, .unOp .not t x, ty, pos, after, g⟩ env (.bool (!b)) := by
  refine ⟨?_⟩
  intro ρ hr w
  have hx' := hr x (by simp [Op.operands]) _ hx
  simp [execOp, hx', Op.unary]

theorem OpP.neg {x : Operand} {t : TypeId} {k : IntKind} {a : Int} (hx : ev env x = some (.int k a)) : OpP P ⟨dst, .unOp .neg t x, ty, pos, after, g⟩ env (.int k (k.wrap (0 - a))) := by
  refine ⟨?_⟩
  intro ρ hr w
  have hx' := hr x (by simp [Op.operands]) _ hx
  simp [execOp, hx', Op.unary, Op.intArith]

/-- Any operator on two integers. -/
theorem OpP.bin {op : BinOp} {x y : Operand} {t u : TypeId} {k k' : IntKind} {a b : Int} {v : Value} (hx : ev env x = some (.int k a)) (hy : ev env y = some (.int k' b))
    (hv : ∀ w, (binOp op t (.int k a) (.int k' b)).run P w = .ok v w) : OpP P ⟨dst, .binOp op t x y u, ty, pos, after, g⟩ env v := by
  refine ⟨?_⟩
  intro ρ hr w
  have hx' := hr x (by simp [Op.operands]) _ hx
  have hy' := hr y (by simp [Op.operands]) _ hy
  have hg : (eqGuard op t x y (.int k a) (.int k' b)).run P w = .ok () w := by
    unfold eqGuard
    split <;> simp
  simp [execOp, hx', hy', hg, hv]

theorem OpP.cmp {op : BinOp} {x y : Operand} {t u : TypeId} {k : IntKind} {a b : Int} {c : Bool} (hx : ev env x = some (.int k a)) (hy : ev env y = some (.int k b))
    (hv : ∀ w, (Op.intCmp op a b).run P w = .ok (.bool c) w) (hop : (match op with | .eql | .neq | .lss | .leq | .gtr | .geq => true | _ => false) = true) : OpP P ⟨dst, .binOp op t x y u, ty, pos, after, g⟩ env (.bool c) := by
  refine OpP.bin hx hy fun w => ?_
  cases op <;> first | (simp at hop; done) | (simp [binOp, hv])

theorem OpP.lss {x y : Operand} {t u : TypeId} {k : IntKind} {a b : Int} (hx : ev env x = some (.int k a)) (hy : ev env y = some (.int k b)) : OpP P ⟨dst, .binOp .lss t x y u, ty, pos, after, g⟩ env (.bool (decide (a < b))) := OpP.cmp hx hy (fun _ => rfl) rfl
theorem OpP.leq {x y : Operand} {t u : TypeId} {k : IntKind} {a b : Int} (hx : ev env x = some (.int k a)) (hy : ev env y = some (.int k b)) : OpP P ⟨dst, .binOp .leq t x y u, ty, pos, after, g⟩ env (.bool (decide (a ≤ b))) := OpP.cmp hx hy (fun _ => rfl) rfl
theorem OpP.gtr {x y : Operand} {t u : TypeId} {k : IntKind} {a b : Int} (hx : ev env x = some (.int k a)) (hy : ev env y = some (.int k b)) : OpP P ⟨dst, .binOp .gtr t x y u, ty, pos, after, g⟩ env (.bool (decide (b < a))) := OpP.cmp hx hy (fun _ => rfl) rfl
theorem OpP.geq {x y : Operand} {t u : TypeId} {k : IntKind} {a b : Int} (hx : ev env x = some (.int k a)) (hy : ev env y = some (.int k b)) : OpP P ⟨dst, .binOp .geq t x y u, ty, pos, after, g⟩ env (.bool (decide (b ≤ a))) := OpP.cmp hx hy (fun _ => rfl) rfl
theorem OpP.eql {x y : Operand} {t u : TypeId} {k : IntKind} {a b : Int} (hx : ev env x = some (.int k a)) (hy : ev env y = some (.int k b)) : OpP P ⟨dst, .binOp .eql t x y u, ty, pos, after, g⟩ env (.bool (decide (a = b))) := OpP.cmp hx hy (fun _ => by simp [Op.intCmp]; by_cases h : a = b <;> simp [h]) rfl
theorem OpP.neq {x y : Operand} {t u : TypeId} {k : IntKind} {a b : Int} (hx : ev env x = some (.int k a)) (hy : ev env y = some (.int k b)) : OpP P ⟨dst, .binOp .neq t x y u, ty, pos, after, g⟩ env (.bool (decide (a ≠ b))) := OpP.cmp hx hy (fun _ => by simp [Op.intCmp, bne]; by_cases h : a = b <;> simp [h]) rfl

theorem OpP.add {x y : Operand} {t u : TypeId} {k : IntKind} {a b : Int} (hx : ev env x = some (.int k a)) (hy : ev env y = some (.int k b)) : OpP P ⟨dst, .binOp .add t x y u, ty, pos, after, g⟩ env (.int k (k.wrap (a + b))) := OpP.bin hx hy fun w => by simp [binOp, Op.intArith]
theorem OpP.sub {x y : Operand} {t u : TypeId} {k : IntKind} {a b : Int} (hx : ev env x = some (.int k a)) (hy : ev env y = some (.int k b)) : OpP P ⟨dst, .binOp .sub t x y u, ty, pos, after, g⟩ env (.int k (k.wrap (a - b))) := OpP.bin hx hy fun w => by simp [binOp, Op.intArith]
theorem OpP.mul {x y : Operand} {t u : TypeId} {k : IntKind} {a b : Int} (hx : ev env x = some (.int k a)) (hy : ev env y = some (.int k b)) : OpP P ⟨dst, .binOp .mul t x y u, ty, pos, after, g⟩ env (.int k (k.wrap (a * b))) := OpP.bin hx hy fun w => by simp [binOp, Op.intArith]
theorem OpP.quo {x y : Operand} {t u : TypeId} {k : IntKind} {a b : Int} (hx : ev env x = some (.int k a)) (hy : ev env y = some (.int k b)) (h : b ≠ 0) : OpP P ⟨dst, .binOp .quo t x y u, ty, pos, after, g⟩ env (.int k (k.wrap (a.tdiv b))) := OpP.bin hx hy fun w => by simp [binOp, Op.intDiv, h]
theorem OpP.rem {x y : Operand} {t u : TypeId} {k : IntKind} {a b : Int} (hx : ev env x = some (.int k a)) (hy : ev env y = some (.int k b)) (h : b ≠ 0) : OpP P ⟨dst, .binOp .rem t x y u, ty, pos, after, g⟩ env (.int k (a.tmod b)) := OpP.bin hx hy fun w => by simp [binOp, Op.intDiv, h]
theorem OpP.bits {op : BinOp} {x y : Operand} {t u : TypeId} {k : IntKind} {a b : Int} {v : Value} (hx : ev env x = some (.int k a)) (hy : ev env y = some (.int k b)) (hop : (match op with | .and | .or | .xor | .andNot => true | _ => false) = true)
    (hv : ∀ w, (Op.intBits op k a b).run P w = .ok v w) : OpP P ⟨dst, .binOp op t x y u, ty, pos, after, g⟩ env v := by
  refine OpP.bin hx hy fun w => ?_
  cases op <;> first | (simp at hop; done) | (simp [binOp, hv])
theorem OpP.shift {op : BinOp} {x y : Operand} {t u : TypeId} {k k' : IntKind} {a b : Int} {v : Value} (hx : ev env x = some (.int k a)) (hy : ev env y = some (.int k' b)) (hop : (match op with | .shl | .shr => true | _ => false) = true)
    (hv : ∀ w, (Op.shift op k a k' b).run P w = .ok v w) : OpP P ⟨dst, .binOp op t x y u, ty, pos, after, g⟩ env v := by
  refine OpP.bin hx hy fun w => ?_
  cases op <;> first | (simp at hop; done) | (simp [binOp, hv])

/-- Another spelling of the value. -/
theorem OpP.as {o : Oper} {v v' : Value} (h : OpP P o env v) (e : v = v') : OpP P o env v' := e ▸ h

theorem OpP.str {op : BinOp} {x y : Operand} {t u : TypeId} {a b : ByteArray} {v : Value} (hx : ev env x = some (.string a)) (hy : ev env y = some (.string b))
    (hv : ∀ w, (Op.stringOp op a b).run P w = .ok v w) (hop : (match op with | .shl | .shr => false | _ => true) = true) : OpP P ⟨dst, .binOp op t x y u, ty, pos, after, g⟩ env v := by
  refine ⟨?_⟩
  intro ρ hr w
  have hx' := hr x (by simp [Op.operands]) _ hx
  have hy' := hr y (by simp [Op.operands]) _ hy
  have hg : (eqGuard op t x y (.string a) (.string b)).run P w = .ok () w := by
    unfold eqGuard
    split <;> simp
  have hb : (binOp op t (.string a) (.string b)).run P w = .ok v w := by
    cases op <;> first | (simp at hop; done) | (simp [binOp, hv])
  simp [execOp, hx', hy', hg, hb]

theorem OpP.conv {x : Operand} {s d : TypeId} {k k' : IntKind} {a : Int} {ks : IntKind} [hs : IntT P s ks] [hd : IntT P d k'] (hx : ev env x = some (.int k a)) : OpP P ⟨dst, .convert s d x, ty, pos, after, g⟩ env (.int k' (k'.wrap a)) := by
  refine ⟨?_⟩
  intro ρ hr w
  have hx' := hr x (by simp [Op.operands]) _ hx
  simp [execOp, hx', convert, run_underlying hs.h, run_underlying hd.h, Conv.intToInt]

theorem OpP.convStr {x : Operand} {s d : TypeId} {a : ByteArray} [hs : StrT P s] [hd : StrT P d] (hx : ev env x = some (.string a)) : OpP P ⟨dst, .convert s d x, ty, pos, after, g⟩ env (.string a) := by
  refine ⟨?_⟩
  intro ρ hr w
  have hx' := hr x (by simp [Op.operands]) _ hx
  simp [execOp, hx', convert, run_underlying hs.h, run_underlying hd.h]

theorem OpP.makeFunc {fn : Fn} {first captured : List Operand} {fs cs : List Value} (h1 : evs env first = some fs) (h2 : evs env captured = some cs) : OpP P ⟨dst, .makeFunc fn first.toArray captured.toArray, ty, pos, after, g⟩ env (.func fn fs.toArray cs.toArray) := by
  refine ⟨?_⟩
  intro ρ hr w
  have e1 := Rds.evs (ρ := ρ) (fun x hx => hr x (by simp [Op.operands, hx])) h1
  have e2 := Rds.evs (ρ := ρ) (fun x hx => hr x (by simp [Op.operands, hx])) h2
  simp [execOp, Instr.makeFunc, e1, e2]

theorem OpP.arrPtr {x : Operand} {t n e sz len cap : Nat} {a : Option Addr} [hs : Ar P t n e sz] (hx : ev env x = some (.slice a len cap)) (h : n ≤ len) : OpP P ⟨dst, .sliceToArrayPointer t x, ty, pos, after, g⟩ env (.pointer a) := by
  refine ⟨?_⟩
  intro ρ hr w
  have hx' := hr x (by simp [Op.operands]) _ hx
  have : ¬ len < n := by omega
  simp [execOp, hx', Instr.arrayAt, run_underlying hs.und, this]
end

end Go.Gp

namespace Go.Gp
open Go Go.RowKit

/-! Memory. -/

/-- Block g is a row of these cells. -/
def row (g : Nat) (t : TypeId) (cs : List Value) : HProp := blk g (.cells cs.toArray t (0, 0))

def Cell (w0 : World) (l : List HProp) (ad : Addr) (v : Value) : Prop := ∀ w, Own w0 w l → w.cell? ad = some v
def Cells (w0 : World) (l : List HProp) (b o : Nat) (vs : List Value) : Prop := ∀ w, Own w0 w l → ∀ j v, vs[j]? = some v → w.cell? ⟨b, o + j, none⟩ = some v

section
variable {w0 : World} {l l' : List HProp} {g b o t : Nat} {cs vs : List Value} {v : Value}

theorem Cell.row (hm : Has (Gp.row g t cs) l) (hv : cs[o]? = some v) : Cell w0 l ⟨g, o, none⟩ v := by
  intro w ho
  obtain ⟨h, _⟩ := ho.blk_heap hm.mem
  rw [cell_of_row w g o _ t _ h]
  simpa using hv

theorem Cell.base {ad : Addr} (h : w0.cell? ad = some v) : Cell w0 l ad v := by
  intro w ho
  rw [ho.below.cell (World.block_lt_of_cell? w0 ad h)]
  exact h

theorem Cells.full (hm : Has (Gp.row g t cs) l) : Cells w0 l g 0 cs := by
  intro w ho j v hv
  rw [Nat.zero_add]
  exact Cell.row (w0 := w0) hm hv w ho

theorem Cells.sub (n : Nat) (hm : Has (Gp.row g t cs) l) (h : (cs.drop o).take n = vs) : Cells w0 l g o vs := by
  intro w ho j v hv
  refine Cell.row (w0 := w0) hm ?_ w ho
  rw [← h, List.getElem?_take] at hv
  split at hv
  · simpa using hv
  · cases hv

theorem Cells.base (h : ∀ j v, vs[j]? = some v → w0.cell? ⟨b, o + j, none⟩ = some v) : Cells w0 l b o vs := fun w ho j v hv => Cell.base (h j v hv) w ho
theorem Cells.nil : Cells w0 l b o [] := fun _ _ _ _ h => by simp at h
theorem Cells.at (h : Cells w0 l b o vs) (j : Nat) (hv : vs[j]? = some v) : Cell w0 l ⟨b, o + j, none⟩ v := fun w ho => h w ho j v hv
theorem Cells.drop (h : Cells w0 l b o vs) (k : Nat) : Cells w0 l b (o + k) (vs.drop k) := fun w ho j v hv => by
  rw [Nat.add_assoc]; exact h w ho (k + j) v (by simpa using hv)
theorem Cells.take (h : Cells w0 l b o vs) (k : Nat) : Cells w0 l b o (vs.take k) := fun w ho j v hv => by
  rw [List.getElem?_take] at hv
  split at hv
  · exact h w ho j v hv
  · cases hv
theorem Cells.conv (hl : ∀ w, Own w0 w l' → Own w0 w l) (h : Cells w0 l b o vs) : Cells w0 l' b o vs := fun w ho => h w (hl w ho)
theorem Cell.conv {ad : Addr} (hl : ∀ w, Own w0 w l' → Own w0 w l) (h : Cell w0 l ad v) : Cell w0 l' ad v := fun w ho => h w (hl w ho)
end

/-- vs put in from place o on. -/
inductive Spl : List Value → Nat → List Value → List Value → Prop where
  | nil {cs : List Value} : Spl cs 0 [] cs
  | here {c v : Value} {cs vs cs' : List Value} (h : Spl cs 0 vs cs') : Spl (c :: cs) 0 (v :: vs) (v :: cs')
  | there {c : Value} {cs vs cs' : List Value} {n : Nat} (h : Spl cs n vs cs') : Spl (c :: cs) (n + 1) vs (c :: cs')

theorem Spl.eq {cs vs cs' : List Value} {o : Nat} (h : Spl cs o vs cs') : o + vs.length ≤ cs.length ∧ cs' = cs.take o ++ vs ++ cs.drop (o + vs.length) := by
  induction h with
  | nil => simp
  | here _ ih => obtain ⟨h1, h2⟩ := ih; simp at h1 h2 ⊢; exact ⟨h1, h2⟩
  | there _ ih => obtain ⟨h1, h2⟩ := ih; simp at h1 ⊢; refine ⟨by omega, ?_⟩; rw [h2]; simp [Nat.add_right_comm]

theorem Spl.mk {cs vs : List Value} {o : Nat} (h : o + vs.length ≤ cs.length) : Spl cs o vs (cs.take o ++ vs ++ cs.drop (o + vs.length)) := by
  induction o generalizing cs with
  | zero =>
    induction vs generalizing cs with
    | nil => simp; exact .nil
    | cons v vs ih =>
      cases cs with
      | nil => simp at h
      | cons c cs => have := ih (cs := cs) (by simp at h; omega); simp at this; simpa using Spl.here this
  | succ o ih =>
    cases cs with
    | nil => simp at h
    | cons c cs =>
      have := ih (cs := cs) (by simp at h; omega)
      have e : o + 1 + vs.length = (o + vs.length) + 1 := by omega
      rw [e]
      simpa using Spl.there this

theorem Spl.length {cs vs cs' : List Value} {o : Nat} (h : Spl cs o vs cs') : cs'.length = cs.length := by
  obtain ⟨h1, h2⟩ := h.eq
  rw [h2]; simp; omega

section
variable {P : Program} {w0 : World} {env : Env} {l l' : List HProp} {dst : Option Tmp} {ty : TypeId} {pos : String} {after : Array Edge} {g : Option (Nat × Bool)}

theorem OpR.load1 {x : Operand} {t : TypeId} {ad : Addr} {v : Value} [One P t] (hx : ev env x = some (.pointer (some ad))) (hc : Cell w0 l ad v) : OpR P w0 ⟨dst, .load t x, ty, pos, after, g⟩ env l v := by
  refine ⟨?_⟩
  intro ρ hr w ho
  have := hr x (by simp [Op.operands]) _ hx
  simp [execOp, this, Instr.loadAt, Instr.sureAddr, loadVar, run_isAgg_one, run_load, hc w ho]

theorem OpR.loadN {x : Operand} {t n b o : Nat} {vs : List Value} [Agg P t n] (hx : ev env x = some (.pointer (some ⟨b, o, none⟩))) (hc : Cells w0 l b o vs) (hn : vs.length = n) : OpR P w0 ⟨dst, .load t x, ty, pos, after, g⟩ env l (.agg vs.toArray) := by
  refine ⟨?_⟩
  intro ρ hr w ho
  have := hr x (by simp [Op.operands]) _ hx
  have hl := run_loadCells_list (P := P) w ⟨b, o, none⟩ vs (fun j v hv => by rw [addr_add]; exact hc w ho j v hv)
  rw [hn] at hl
  simp [execOp, this, Instr.loadAt, Instr.sureAddr, loadVar, run_isAgg_agg, run_sizeOf_agg, hl]

theorem Own.setRow {w : World} {b t : Nat} {cs cs' : List Value} (hu : Upd (row b t cs) (row b t cs') l l') (ho : Own w0 w l) : Own w0 (w.setRow b cs'.toArray) l' := by
  obtain ⟨m, h1, h2⟩ := hu.perm
  have ho1 := ho.perm h1
  obtain ⟨hg, hb⟩ := ho1.sat.blk_heap
  refine Own.perm h2 (Own.write ho1 (below_setRow (Below.refl _ _) hb _) (fun k hk => setRow_other w b k _ hk) (setRow_heap w b _ _ t _ hg))

theorem OpM.store {x y : Operand} {t n b o bt : Nat} {v : Value} {vs cs cs' : List Value} (hx : ev env x = some (.pointer (some ⟨b, o, none⟩))) (hy : ev env y = some v) (hv : v.cells = vs.toArray) (hn : ∀ w, (sizeOf t).run P w = .ok n w) (hvn : vs.length = n)
    (h1 : ∀ u ∈ vs, u.oneCell' = true) (hs : Spl cs o vs cs') (hu : Upd (row b bt cs) (row b bt cs') l l') : OpM P w0 ⟨dst, .store t x y, ty, pos, after, g⟩ env l (fun u l'' => u = undef ∧ l'' = l') := by
  refine ⟨?_⟩
  intro ρ hr w ho
  have hx' := hr x (by simp [Op.operands]) _ hx
  have hy' := hr y (by simp [Op.operands]) _ hy
  obtain ⟨hheap, _⟩ := ho.blk_heap hu.mem
  obtain ⟨hle, hcs⟩ := hs.eq
  have hst := run_storeCells_at P b o bt vs 0 cs.toArray w hheap (by simpa using hle) h1
  simp only [Nat.add_zero] at hst
  rw [← hcs] at hst
  refine ⟨.skip, undef, w.setRow b cs'.toArray, l', ?_, .inr ⟨rfl, rfl⟩, ⟨rfl, rfl⟩, Own.setRow hu ho⟩
  simp [execOp, hx', hy', Instr.storeAt, Instr.sureAddr, storeVar, hv, hn, hvn, hst]

theorem OpM.store1 {x y : Operand} {t b o bt : Nat} {v : Value} {cs cs' : List Value} [One P t] (hx : ev env x = some (.pointer (some ⟨b, o, none⟩))) (hy : ev env y = some v) (h1 : v.oneCell' = true)
    (hs : Spl cs o [v] cs') (hu : Upd (row b bt cs) (row b bt cs') l l') : OpM P w0 ⟨dst, .store t x y, ty, pos, after, g⟩ env l (fun u l'' => u = undef ∧ l'' = l') :=
  OpM.store hx hy (vs := [v]) (by cases v <;> first | rfl | (simp [Value.oneCell'] at h1)) (fun w => run_sizeOf_one w) rfl (by simpa using h1) hs hu

theorem OpM.storeN {x y : Operand} {t n b o bt : Nat} {vs cs cs' : List Value} [Agg P t n] (hx : ev env x = some (.pointer (some ⟨b, o, none⟩))) (hy : ev env y = some (.agg vs.toArray)) (hvn : vs.length = n)
    (h1 : ∀ u ∈ vs, u.oneCell' = true) (hs : Spl cs o vs cs') (hu : Upd (row b bt cs) (row b bt cs') l l') : OpM P w0 ⟨dst, .store t x y, ty, pos, after, g⟩ env l (fun u l'' => u = undef ∧ l'' = l') :=
  OpM.store hx hy rfl (fun w => run_sizeOf_agg w) hvn h1 hs hu

theorem OpM.new {o : Oper} {t : TypeId} {cs : List Value} {val : Nat → Value} (h : ∀ ρ, Rds ρ env o.op.operands → ∀ w, Own w0 w l → ∃ w', (execOp ρ o).run P w = .ok (.value (val w.heap.size)) w' ∧ Below w.heap.size w w' ∧ w'.heap[w.heap.size]? = some (.cells cs.toArray t (0, 0))) :
    OpM P w0 o env l (fun u l'' => ∃ b, u = val b ∧ l'' = row b t cs :: l) := by
  refine ⟨?_⟩
  intro ρ hr w ho
  obtain ⟨w', h1, h2, h3⟩ := h ρ hr w ho
  exact ⟨_, _, w', _, h1, .inl rfl, ⟨w.heap.size, rfl, rfl⟩, Own.new ho h2 h3⟩

theorem below_new (w : World) (o : Obj) : Below w.heap.size w (w.alloc o) := (Below.refl _ _).alloc (Nat.le_refl _) o

theorem OpM.alloc {t : TypeId} {z : List Value} [hz : Zr P t z] : OpM P w0 ⟨dst, .alloc t, ty, pos, after, g⟩ env l (fun u l'' => ∃ b, u = .pointer (some ⟨b, 0, none⟩) ∧ l'' = row b t z :: l) := by
  refine OpM.new fun ρ hr w ho => ?_
  obtain ⟨v, hv, hc⟩ := run_zeroValue hz
  refine ⟨w.alloc (.cells v.cells t), ?_, below_new w _, by rw [heap_alloc_new, hc]⟩
  simp [execOp, Instr.alloc, hv, newVar, newRow]

theorem OpM.box {t : TypeId} {x : Operand} {v : Value} {cs : List Value} (hx : ev env x = some v) (hc : v.cells = cs.toArray) : OpM P w0 ⟨dst, .box t x, ty, pos, after, g⟩ env l (fun u l'' => ∃ b, u = .pointer (some ⟨b, 0, none⟩) ∧ l'' = row b t cs :: l) := by
  refine OpM.new fun ρ hr w ho => ?_
  have hx' := hr x (by simp [Op.operands]) _ hx
  refine ⟨w.alloc (.cells v.cells t), ?_, below_new w _, by rw [heap_alloc_new, hc]⟩
  simp [execOp, hx', Instr.box, newVar, newRow]
end

end Go.Gp

namespace Go.Gp
open Go Go.RowKit

/-! Values that are put together. -/

inductive Fills (place : Nat → Option (Nat × Nat)) : List Value → List (Nat × Value) → List Value → Prop where
  | nil {z : List Value} : Fills place z [] z
  | cons {z z' cs vs : List Value} {i off size : Nat} {v : Value} {rest : List (Nat × Value)} (hp : place i = some (off, size)) (hc : v.cells = vs.toArray) (hn : vs.length = size) (hs : Spl z off vs z') (h : Fills place z' rest cs) : Fills place z ((i, v) :: rest) cs

theorem foldl_set_spl (vs : List Value) : ∀ (z : Array Value) (off k : Nat), off + k + vs.length ≤ z.size →
    ((vs.zipIdx k).foldl (fun cs (x : Value × Nat) => cs.setIfInBounds (off + x.2) x.1) z).toList = z.toList.take (off + k) ++ vs ++ z.toList.drop (off + k + vs.length) := by
  induction vs with
  | nil => intro z off k _; simp
  | cons v vs ih =>
    intro z off k h
    simp only [List.zipIdx_cons, List.foldl_cons]
    rw [show off + k = off + k from rfl]
    have h' : off + (k + 1) + vs.length ≤ (z.setIfInBounds (off + k) v).size := by simp at h ⊢; omega
    rw [ih _ off (k + 1) h']
    simp only [Array.toList_setIfInBounds, List.length_cons] at h ⊢
    have hlt : off + k < z.toList.length := by simp at h ⊢; omega
    apply List.ext_getElem?
    intro j
    by_cases h1 : j < off + k
    · rw [List.append_assoc, List.append_assoc, List.getElem?_append_left (by simp; omega), List.getElem?_append_left (by simp; omega)]
      rw [List.getElem?_take, List.getElem?_take, if_pos (by omega), if_pos h1, List.getElem?_set_ne (by omega)]
    · by_cases h2 : j = off + k
      · subst h2
        rw [List.append_assoc, List.getElem?_append_left (by simp; omega)]
        rw [List.getElem?_take, if_pos (by omega)]
        rw [List.append_assoc, List.getElem?_append_right (by simp; omega)]
        simp at hlt
        simp [hlt, Nat.min_eq_left (Nat.le_of_lt hlt)]
      · by_cases h3 : j < off + k + 1 + vs.length
        · rw [List.append_assoc, List.getElem?_append_right (by simp; omega), List.getElem?_append_left (by simp; simp at hlt; omega)]
          rw [List.append_assoc, List.getElem?_append_right (by simp; omega), List.getElem?_append_left (by simp; simp at hlt; omega)]
          simp only [List.length_take, List.length_set]
          have e1 : j - min (off + (k + 1)) z.toList.length = j - (off + k) - 1 := by simp at hlt ⊢; omega
          have e2 : j - min (off + k) z.toList.length = (j - (off + k) - 1) + 1 := by simp at hlt ⊢; omega
          rw [e1, e2]; simp
        · rw [List.append_assoc, List.getElem?_append_right (by simp; omega), List.getElem?_append_right (by simp; simp at hlt; omega)]
          rw [List.append_assoc, List.getElem?_append_right (by simp; omega), List.getElem?_append_right (by simp; simp at hlt; omega)]
          simp only [List.length_take, List.length_set, List.getElem?_drop, List.length_cons]
          simp at hlt h
          rw [List.getElem?_set_ne (by omega)]
          congr 1
          simp; omega

theorem Fills.run {place : Nat → Option (Nat × Nat)} {z cs : List Value} {parts : List (Nat × Value)} (h : Fills place z parts cs) : Instr.fill place z.toArray parts = some cs.toArray := by
  induction h with
  | nil => rfl
  | cons hp hc hn hs _ ih =>
    rename_i z z' cs vs i off size v rest _
    obtain ⟨h1, h2⟩ := hs.eq
    unfold Instr.fill
    simp only [hp, hc]
    rw [if_neg (by simp; omega)]
    rw [← ih]
    congr 1
    apply Array.ext'
    have := foldl_set_spl vs z.toArray off 0 (by simp; omega)
    simp only [Nat.add_zero] at this
    rw [h2, ← this]
    simp only [← Array.foldl_toList, Array.toList_zipIdx]

def evp (env : Env) : List (Nat × Operand) → Option (List (Nat × Value))
  | [] => some []
  | (i, x) :: xs => match ev env x with
    | some v => (match evp env xs with
      | some vs => some ((i, v) :: vs)
      | none => none)
    | none => none

theorem evp_map {ρ : Operand → Value} {env : Env} : ∀ {xs : List (Nat × Operand)} {vs : List (Nat × Value)}, (∀ x ∈ xs, ∀ u, ev env x.2 = some u → ρ x.2 = u) → evp env xs = some vs → xs.map (fun (x : Nat × Operand) => (x.1, ρ x.2)) = vs
  | [], vs, _, h => by simp [evp] at h; subst h; rfl
  | (i, x) :: xs, vs, hr, h => by
    unfold evp at h
    split at h
    · rename_i v hv
      split at h
      · rename_i vs' hvs
        simp at h; subst h
        simp only [List.map_cons]
        rw [hr (i, x) (.head _) v hv, evp_map (fun y hy => hr y (.tail _ hy)) hvs]
      · cases h
    · cases h

def plcL (P : Program) (t : TypeId) : Option (List (Nat × Nat)) :=
  match P.underlying t with
  | some (.struct fs) => fs.toList.mapM fun fd => (P.info? fd.type).map fun i => (fd.offset, i.size)
  | _ => none

class Plc (P : Program) (t : TypeId) (pl : outParam (List (Nat × Nat))) : Prop where
  h : plcL P t = some pl

theorem mapM_places {P : Program} (w : World) : ∀ (fs : List Field) (pl : List (Nat × Nat)), (fs.mapM fun fd => (P.info? fd.type).map fun i => (fd.offset, i.size)) = some pl →
    (fs.mapM (m := Sem) fun f => do Pure.pure (f.offset, ← sizeOf f.type)).run P w = .ok pl w
  | [], pl, h => by simp at h; subst h; simp
  | f :: fs, pl, h => by
    simp only [List.mapM_cons, Option.pure_def, Option.bind_eq_bind] at h
    cases hi : P.info? f.type with
    | none => simp [hi] at h
    | some i =>
      simp only [hi, Option.map_some, Option.bind_some] at h
      cases hr : (fs.mapM fun fd => (P.info? fd.type).map fun i => (fd.offset, i.size)) with
      | none => simp [hr] at h
      | some pr =>
        simp [hr] at h
        subst h
        have ih := mapM_places (P := P) w fs pr hr
        simp only [List.mapM_cons, Sem.run_bind, run_sizeOf_info w hi, Result.andThen_ok, Sem.run_pure, ih]

theorem Plc.out {P : Program} {t : TypeId} {pl : List (Nat × Nat)} (h : Plc P t pl) : ∃ fs : Array Field, P.underlying t = some (.struct fs) ∧ ∀ w, (fs.mapM (m := Sem) fun f => do Pure.pure (f.offset, ← sizeOf f.type)).run P w = .ok pl.toArray w := by
  have h := h.h
  unfold plcL at h
  cases e : P.underlying t with
  | none => simp [e] at h
  | some d =>
    cases d <;> simp [e] at h
    case struct fs =>
      refine ⟨fs, rfl, fun w => ?_⟩
      have := mapM_places (P := P) w fs.toList pl h
      rw [show fs = fs.toList.toArray from rfl, List.mapM_toArray, Sem.run_map]
      rw [show (fs.toList.toArray.toList) = fs.toList from rfl] at *
      rw [this]
      rfl

section
variable {P : Program} {w0 : World} {env : Env} {l l' : List HProp} {dst : Option Tmp} {ty : TypeId} {pos : String} {after : Array Edge} {g : Option (Nat × Bool)}

theorem OpP.build {t : TypeId} {parts : List (Nat × Operand)} {ivs : List (Nat × Value)} {pl : List (Nat × Nat)} {z cs : List Value} [hp : Plc P t pl] [hz : Zr P t z] (he : evp env parts = some ivs) (hf : Fills (fun i => pl[i]?) z ivs cs) :
    OpP P ⟨dst, .build t parts.toArray, ty, pos, after, g⟩ env (.agg cs.toArray) := by
  refine ⟨?_⟩
  intro ρ hr w
  have hm := evp_map (ρ := ρ) (fun x hx => hr x.2 (by simp [Op.operands]; exact ⟨x.1, hx⟩)) he
  obtain ⟨fs, h1, h2⟩ := hp.out
  obtain ⟨v, hv, hc⟩ := run_zeroValue hz
  have hfill := hf.run
  have hm' : parts.toArray.map (fun (x : Nat × Operand) => (x.1, ρ x.2)) = ivs.toArray := by simp [hm]
  have hfill' : Instr.fill (fun x => pl.toArray[x]?) z.toArray ivs = some cs.toArray := by simpa using hfill
  simp only [execOp, Instr.build, hm', Sem.run_bind, hv, run_underlying h1, Result.andThen_ok, h2, hc, hfill', Sem.run_pure]

theorem OpP.buildA {t n e sz : Nat} {parts : List (Nat × Operand)} {ivs : List (Nat × Value)} {z cs : List Value} [ha : Ar P t n e sz] [hz : Zr P t z] (he : evp env parts = some ivs) (hf : Fills (fun i => some (i * sz, sz)) z ivs cs) :
    OpP P ⟨dst, .build t parts.toArray, ty, pos, after, g⟩ env (.agg cs.toArray) := by
  refine ⟨?_⟩
  intro ρ hr w
  have hm := evp_map (ρ := ρ) (fun x hx => hr x.2 (by simp [Op.operands]; exact ⟨x.1, hx⟩)) he
  obtain ⟨v, hv, hc⟩ := run_zeroValue hz
  obtain ⟨i, h2, h3, _⟩ := ha.inf
  have hfill := hf.run
  have hm' : parts.toArray.map (fun (x : Nat × Operand) => (x.1, ρ x.2)) = ivs.toArray := by simp [hm]
  simp only [execOp, Instr.build, hm', Sem.run_bind, hv, run_underlying ha.und, Result.andThen_ok, run_sizeOf_info w h2, h3, hc, hfill, Sem.run_pure]

def rep (n : Nat) (z : List Value) : List Value := (List.replicate n z).flatten

theorem rep_length (n : Nat) (z : List Value) : (rep n z).length = n * z.length := by simp [rep]
theorem rep_one (n : Nat) (v : Value) : rep n [v] = List.replicate n v := by
  induction n with
  | zero => rfl
  | succ n ih => simp only [rep, List.replicate_succ, List.flatten_cons] at ih ⊢; rw [ih]; rfl

theorem rep_get (z : List Value) (hz : 0 < z.length) : ∀ (n j : Nat), j < n * z.length → (rep n z)[j]? = z[j % z.length]?
  | 0, j, h => by simp at h
  | n + 1, j, h => by
    have hs : rep (n + 1) z = z ++ rep n z := by simp [rep, List.replicate_succ]
    rw [hs]
    by_cases hj : j < z.length
    · rw [List.getElem?_append_left hj, Nat.mod_eq_of_lt hj]
    · rw [List.getElem?_append_right (by omega), rep_get z hz n (j - z.length) (by rw [Nat.add_mul] at h; omega)]
      congr 1
      rw [← Nat.mod_eq_sub_mod (by omega)]

theorem madeCells_rep (z : List Value) (n : Nat) (hz : 0 < z.length) : (madeCells z.toArray (n * z.length)).toList = rep n z := by
  apply List.ext_getElem?
  intro j
  by_cases hj : j < n * z.length
  · rw [rep_get z hz n j hj]
    have hm : j % z.length < z.length := Nat.mod_lt _ hz
    simp [madeCells, hj, hm]
  · rw [List.getElem?_eq_none (by simp [madeCells]; omega), List.getElem?_eq_none (by rw [rep_length]; omega)]

theorem zeroCells_rep (z : List Value) (n : Nat) (hz : 0 < z.length) : (Builtin.zeroCells z.toArray n).toList = rep n z := by
  have := madeCells_rep z n hz
  simpa [Builtin.zeroCells, madeCells] using this

theorem OpM.buildSlice {t e sz by_ len : Nat} {parts : List (Nat × Operand)} {ivs : List (Nat × Value)} {z cs : List Value} [hs : Sl P t e sz by_] [hz : Zr P e z] (hzl : z.length = sz) (he : evp env parts = some ivs) (hlen : Nat.ble (len * sz) 16777216 = true)
    (hf : Fills (fun i => some (i * sz, sz)) (rep len z) ivs cs) :
    OpM P w0 ⟨dst, .buildSlice t len parts.toArray, ty, pos, after, g⟩ env l (fun u l'' => ∃ b, u = .slice (some ⟨b, 0, none⟩) len len ∧ l'' = row b e cs :: l) := by
  refine OpM.new (val := fun b => .slice (some ⟨b, 0, none⟩) len len) fun ρ hr w ho => ?_
  have hm := evp_map (ρ := ρ) (fun x hx => hr x.2 (by simp [Op.operands]; exact ⟨x.1, hx⟩)) he
  obtain ⟨v, hv, hc⟩ := run_zeroValue hz
  obtain ⟨i, h2, h3, _, h5⟩ := hs.inf
  have hm' : parts.toArray.map (fun (x : Nat × Operand) => (x.1, ρ x.2)) = ivs.toArray := by simp [hm]
  have hlen' : ¬ (16777216 < len * sz) := by have := Nat.le_of_ble_eq_true hlen; omega
  have hfill := hf.run
  have hmade : (madeCells z.toArray (len * sz)) = (rep len z).toArray := by
    apply Array.ext'
    have := madeCells_rep z len (by omega)
    rw [hzl] at this
    exact this
  refine ⟨w.alloc (.cells cs.toArray e), ?_, below_new w _, heap_alloc_new w _⟩
  by_cases h0 : len * sz = 0
  · have hl0 : len = 0 := by rcases Nat.mul_eq_zero.1 h0 with h | h <;> omega
    subst hl0
    have hfill0 : Instr.fill (fun i => some (i * sz, sz)) ((Array.range (0 * sz)).map ((#[] : Array Value)[· % (#[] : Array Value).size]!)) ivs = some cs.toArray := by simpa [rep, Array.range_zero'] using hfill
    simp only [execOp, Instr.buildSlice, hm', Sem.run_bind, run_underlying hs.und, Result.andThen_ok, run_sizeOf_info w h2, h3, Sem.run_ite, if_neg hlen', if_pos h0, Sem.run_pure, hfill0, newRow, run_newObj, World.alloc_eq]
  · have hfill' : Instr.fill (fun i => some (i * sz, sz)) ((Array.range (len * sz)).map (z.toArray[· % z.toArray.size]!)) ivs = some cs.toArray := by
      have := hmade; unfold madeCells at this; rw [this]; exact hfill
    simp only [execOp, Instr.buildSlice, hm', Sem.run_bind, run_underlying hs.und, Result.andThen_ok, run_sizeOf_info w h2, h3, Sem.run_ite, if_neg hlen', if_neg h0, hv, hc, Sem.run_pure, hfill', newRow, run_newObj, World.alloc_eq]

theorem OpM.make {t e sz by_ : Nat} {x y : Operand} {k k' : IntKind} {i : Int} {z : List Value} [hs : Sl P t e sz by_] [hz : Zr P e z] (hzl : z.length = sz) (hx : ev env x = some (.int k i)) (hy : ev env y = some (.int k' i)) (h0 : 0 ≤ i) (hb : (by_ : Int) * i ≤ 281474976710656) (h63 : i ≤ 9223372036854775807) :
    OpM P w0 ⟨dst, .makeSlice t x y, ty, pos, after, g⟩ env l (fun u l'' => ∃ b, u = .slice (some ⟨b, 0, none⟩) i.toNat i.toNat ∧ l'' = row b e (rep i.toNat z) :: l) := by
  refine OpM.new (val := fun b => .slice (some ⟨b, 0, none⟩) i.toNat i.toNat) fun ρ hr w ho => ?_
  have hx' := hr x (by simp [Op.operands]) _ hx
  have hy' := hr y (by simp [Op.operands]) _ hy
  obtain ⟨inf, v, hi, hzv, hc⟩ := hz.out
  obtain ⟨inf', h2, h3, h4, h5⟩ := hs.inf
  rw [hi] at h2; cases h2
  subst h4
  have hr' := run_make (P := P) w t e inf v hs.und hi hzv k k' i i h0 (Int.le_refl _) hb h63
  refine ⟨_, by simp only [execOp, hx', hy', Sem.run_bind, hr', Result.andThen_ok, Sem.run_pure]; rfl, below_new w _, ?_⟩
  rw [heap_alloc_new, hc, h3, ← hzl]
  congr 2
  apply Array.ext'
  exact madeCells_rep z _ (by omega)
end

end Go.Gp

namespace Go.Gp
open Go Go.RowKit

/-! Slices that the call owns. -/

def own (e sz : Nat) (v : Value) (n : Nat) (xs : List Value) : HProp := fun h =>
  (v = .slice none 0 0 ∧ n = 0 ∧ xs = []) ∨
  (∃ g pre post cap, v = .slice (some ⟨g, pre.length, none⟩) n cap ∧ n ≤ cap ∧ cap ≤ maxLen ∧ xs.length = n * sz ∧ (cap - n) * sz ≤ post.length ∧ row g e (pre ++ xs ++ post) h)

theorem Own.own_out {w0 w : World} {l : List HProp} {e sz n : Nat} {v : Value} {xs : List Value} (h : Own w0 w (own e sz v n xs :: l)) :
    (v = .slice none 0 0 ∧ n = 0 ∧ xs = []) ∨
    (∃ g pre post cap, v = .slice (some ⟨g, pre.length, none⟩) n cap ∧ n ≤ cap ∧ cap ≤ maxLen ∧ xs.length = n * sz ∧ (cap - n) * sz ≤ post.length ∧ Own w0 w (row g e (pre ++ xs ++ post) :: l)) := by
  obtain ⟨hb, h1, hA, hh, hl⟩ := h
  rcases hA with hA | ⟨g, pre, post, cap, a1, a2, a3, a4, a5, a6⟩
  · exact .inl hA
  · exact .inr ⟨g, pre, post, cap, a1, a2, a3, a4, a5, hb, h1, a6, hh, hl⟩

theorem Own.own_nil {w0 w : World} {l : List HProp} {e sz : Nat} (h : Own w0 w l) : Own w0 w (own e sz (.slice none 0 0) 0 [] :: l) :=
  h.emp_in.imp (fun _ _ => .inl ⟨rfl, rfl, rfl⟩)

theorem Own.own_in {w0 w : World} {l : List HProp} {e sz n g cap : Nat} {pre xs post : List Value} (h1 : n ≤ cap) (h2 : cap ≤ maxLen) (h3 : xs.length = n * sz) (h4 : (cap - n) * sz ≤ post.length)
    (h : Own w0 w (row g e (pre ++ xs ++ post) :: l)) : Own w0 w (own e sz (.slice (some ⟨g, pre.length, none⟩) n cap) n xs :: l) :=
  h.imp (fun _ hr => .inr ⟨g, pre, post, cap, rfl, h1, h2, h3, h4, hr⟩)

/-- A row made whole is an owned slice. -/
theorem Own.own_whole {w0 w : World} {l : List HProp} {e sz n g : Nat} {xs : List Value} (h2 : n ≤ maxLen) (h3 : xs.length = n * sz) (h : Own w0 w (row g e xs :: l)) : Own w0 w (own e sz (.slice (some ⟨g, 0, none⟩) n n) n xs :: l) :=
  Own.own_in (pre := []) (post := []) (Nat.le_refl _) h2 h3 (by simp) (by simpa using h)

theorem Own.own_len {w0 w : World} {l : List HProp} {e sz n : Nat} {v : Value} {xs : List Value} (h : Own w0 w (own e sz v n xs :: l)) : xs.length = n * sz := by
  rcases h.own_out with ⟨_, rfl, rfl⟩ | ⟨_, _, _, _, _, _, _, h3, _⟩
  · simp
  · exact h3

theorem Own.own_lit {w0 w : World} {l : List HProp} {e sz n : Nat} {v : Value} {xs : List Value} (h : Own w0 w (own e sz v n xs :: l)) : ∃ a cap, v = .slice a n cap := by
  rcases h.own_out with ⟨rfl, rfl, rfl⟩ | ⟨_, _, _, _, rfl, _⟩
  · exact ⟨_, _, rfl⟩
  · exact ⟨_, _, rfl⟩

/-- What is appended. -/
structure Src (P : Program) (w0 : World) (l : List HProp) (sz : Nat) (x : Value) (m : Nat) (news : List Value) : Prop where
  len : news.length = m * sz
  lenOf : ∀ w, Own w0 w l → (Builtin.lenOf x).run P w = .ok m w
  first : ∀ w, Own w0 w l → (Builtin.firstCells sz m x).run P w = .ok news.toArray w

theorem Src.slice {P : Program} {w0 : World} {l : List HProp} {sz b o m c : Nat} {news : List Value} (h : Cells w0 l b o news) (hl : news.length = m * sz) : Src P w0 l sz (.slice (some ⟨b, o, none⟩) m c) m news :=
  ⟨hl, fun w _ => by simp [Builtin.lenOf], fun w ho => run_firstCells_some w sz m ⟨b, o, none⟩ m c news hl (fun j v hv => by rw [addr_add]; exact h w ho j v hv)⟩

theorem Src.nil {P : Program} {w0 : World} {l : List HProp} {sz : Nat} {a : Option Addr} {c : Nat} : Src P w0 l sz (.slice a 0 c) 0 [] :=
  ⟨by simp, fun w _ => by simp [Builtin.lenOf], fun w _ => by cases a <;> simp [Builtin.firstCells, loadCells, loadCellsFrom]⟩

def u8c (b : UInt8) : Value := .int .u8 b.toNat
def bcells (s : List UInt8) : List Value := s.map u8c

theorem Src.str {P : Program} {w0 : World} {l : List HProp} {s : ByteArray} : Src P w0 l 1 (.string s) s.size (bcells s.data.toList) :=
  ⟨by rw [bcells, List.length_map, Nat.mul_one]; rfl, fun w _ => by simp [Builtin.lenOf], fun w _ => by
    have : s.extract 0 s.size = s := by simp
    simp only [Builtin.firstCells, this, Sem.run_pure]
    congr 1
    apply Array.ext'
    simp only [Array.toList_map, bcells]
    rfl⟩

section
variable {P : Program} (w : World) {t u ty e : TypeId} {i : TypeInfo} {z x : Value} {m n cap : Nat} {base : Option Addr} {news olds : List Value} {d : TypeDesc}

theorem run_append_fit (ht : P.underlying t = some (.slice e)) (hu : (∃ e2, P.underlying u = some (.slice e2)) ∨ P.underlying u = some .string) (hi : P.info? e = some i)
    (hlen : (Builtin.lenOf x).run P w = .ok m w) (hnew : (Builtin.firstCells i.size m x).run P w = .ok news.toArray w) (hroom : n + m ≤ cap) {w' : World} {a : Addr}
    (hst : (storeCells (a.add (n * i.size)) news).run P w = .ok () w') :
    (Builtin.append_ #[t, u] ty #[.slice (some a) n cap, x]).run P w = .ok (.slice (some a) (n + m) cap) w' := by
  rcases hu with ⟨e2, hu⟩ | hu
  · simp [Builtin.append_, run_underlying ht, run_underlying hu, run_sizeOf_info w hi, hlen, hnew, hroom, hst]
  · simp [Builtin.append_, run_underlying ht, run_underlying hu, run_sizeOf_info w hi, hlen, hnew, hroom, hst]

theorem run_append_none (ht : P.underlying t = some (.slice e)) (hu : (∃ e2, P.underlying u = some (.slice e2)) ∨ P.underlying u = some .string) (hi : P.info? e = some i)
    (hlen : (Builtin.lenOf x).run P w = .ok 0 w) (hnew : (Builtin.firstCells i.size 0 x).run P w = .ok news.toArray w) :
    (Builtin.append_ #[t, u] ty #[.slice none 0 0, x]).run P w = .ok (.slice none 0 0) w := by
  rcases hu with ⟨e2, hu⟩ | hu
  · simp [Builtin.append_, run_underlying ht, run_underlying hu, run_sizeOf_info w hi, hlen, hnew]
  · simp [Builtin.append_, run_underlying ht, run_underlying hu, run_sizeOf_info w hi, hlen, hnew]

theorem run_append_grows (ht : P.underlying t = some (.slice e)) (hu : (∃ e2, P.underlying u = some (.slice e2)) ∨ P.underlying u = some .string) (hi : P.info? e = some i) (hz : i.zero = some z)
    (hlen : (Builtin.lenOf x).run P w = .ok m w) (hnew : (Builtin.firstCells i.size m x).run P w.drew = .ok news.toArray w.drew) (hold : (Builtin.firstCells i.size n (.slice base n cap)).run P w.drew = .ok olds.toArray w.drew)
    (hg : cap < n + m) (h63 : n + m ≤ maxLen) (hb : (n + m) * i.bytes ≤ 140737488355328) :
    (Builtin.append_ #[t, u] ty #[.slice base n cap, x]).run P w = .ok (.slice (some ⟨w.heap.size, 0, none⟩) (n + m) (grownCap w (n + m) cap e))
      (w.drew.alloc (.cells (olds.toArray ++ news.toArray ++ Builtin.zeroCells z.cells (grownCap w (n + m) cap e - (n + m))) e)) := by
  have h1 : ¬ (n + m ≤ cap) := by omega
  have h2 := growslice_fits hg hb
  have h3 : ¬ (281474976710656 < Builtin.nextslicecap (n + m) cap * i.bytes) := by omega
  have h4 : ¬ ((9223372036854775807 : Int) < (n : Int) + (m : Int)) := by simp only [maxLen] at h63; omega
  rcases hu with ⟨e2, hu⟩ | hu
  · simp [Builtin.append_, run_underlying ht, run_underlying hu, sizeOf, typeInfo, hi, hlen, h1, h3, h4, Question.forced, hold, hnew, zeroValue, hz, newRow, grownCap]
    rw [← List.append_toArray, Array.append_assoc]
  · simp [Builtin.append_, run_underlying ht, run_underlying hu, sizeOf, typeInfo, hi, hlen, h1, h3, h4, Question.forced, hold, hnew, zeroValue, hz, newRow, grownCap]
    rw [← List.append_toArray, Array.append_assoc]

end

section
variable {P : Program} {w0 : World} {env : Env} {l : List HProp} {dst : Option Tmp} {ty : TypeId} {pos : String} {after : Array Edge} {g : Option (Nat × Bool)}

theorem OpM.append {x y : Operand} {tys : Array TypeId} {t u e sz by_ n m : Nat} {v xv : Value} {xs news z : List Value} {L : Value → List HProp} [hs : Sl P t e sz by_] [hz : Zr P e z]
    (htys : tys = #[t, u]) (hu : (∃ e2, P.underlying u = some (.slice e2)) ∨ P.underlying u = some .string) (hzl : z.length = sz)
    (hx : ev env x = some v) (hy : ev env y = some xv) (hsrc : Src P w0 l sz xv m news) (h1 : ∀ c ∈ news, c.oneCell' = true) (h63 : n + m ≤ maxLen) (hb : (n + m) * by_ ≤ 140737488355328)
    (hu' : ∀ v', Upd (own e sz v n xs) (own e sz v' (n + m) (xs ++ news)) l (L v')) :
    OpM P w0 ⟨dst, .call ⟨.builtin .append, #[x, y], tys⟩, ty, pos, after, g⟩ env l (fun r l'' => (∃ a c, r = .slice a (n + m) c) ∧ l'' = L r) := by
  subst htys
  refine ⟨?_⟩
  intro ρ hr w ho
  have hx' := hr x (by simp [Op.operands, Call.operands]) _ hx
  have hy' := hr y (by simp [Op.operands, Call.operands]) _ hy
  obtain ⟨inf, v0, hi, hzv, hzc⟩ := hz.out
  obtain ⟨inf', h2, h3, h4, h5⟩ := hs.inf
  rw [hi] at h2; cases h2
  have hlen := hsrc.lenOf w ho
  have key : ∃ v' w', (Builtin.append_ #[t, u] ty #[v, xv]).run P w = .ok v' w' ∧ Own w0 w' (L v') ∧ ∃ a c, v' = .slice a (n + m) c := by
    obtain ⟨mm, hp1, _⟩ := (hu' v).perm
    have ho1 := ho.perm hp1
    have back : ∀ v' w', Own w0 w' (own e sz v' (n + m) (xs ++ news) :: mm) → Own w0 w' (L v') ∧ ∃ a c, v' = .slice a (n + m) c := by
      intro v' w' h
      refine ⟨?_, h.own_lit⟩
      obtain ⟨m2, q1, q2⟩ := (hu' v').perm
      have : (own e sz v n xs :: mm).Perm (own e sz v n xs :: m2) := hp1.symm.trans q1
      exact h.perm (((List.perm_cons _).1 this).cons _ |>.trans q2)
    have hxl := ho1.own_len
    have grow : ∀ (base : Option Addr) (cap : Nat), (Builtin.firstCells inf.size n (.slice base n cap)).run P w.drew = .ok xs.toArray w.drew → cap < n + m → v = .slice base n cap →
        ∃ v' w', (Builtin.append_ #[t, u] ty #[v, xv]).run P w = .ok v' w' ∧ Own w0 w' (L v') ∧ ∃ a c, v' = .slice a (n + m) c := by
      intro base cap hold hg hv
      have hod : Own w0 w.drew l := ho.same ((Below.refl _ _).drew)
      have hnew := hsrc.first w.drew hod
      have hr' := run_append_grows (P := P) (ty := ty) w hs.und hu hi hzv hlen (by rw [h3]; exact hnew) hold hg h63 (by rw [h4]; exact hb)
      refine ⟨_, _, by rw [hv]; exact hr', back _ _ ?_⟩
      have hge := grownCap_ge w (n + m) cap e
      have hle := grownCap_le_maxLen w (n + m) cap e h63
      have ho2 : Own w0 (w.drew.alloc (.cells (xs.toArray ++ news.toArray ++ Builtin.zeroCells v0.cells (grownCap w (n + m) cap e - (n + m))) e))
          (blk w.heap.size (.cells (xs.toArray ++ news.toArray ++ Builtin.zeroCells v0.cells (grownCap w (n + m) cap e - (n + m))) e) :: mm) := by
        refine Own.new ho1.tail ?_ (heap_alloc_new w.drew _)
        exact ((Below.refl _ _).drew).alloc (Nat.le_refl _) _
      refine Own.own_in (pre := []) (post := rep (grownCap w (n + m) cap e - (n + m)) z) hge hle ?_ ?_ ?_
      · rw [List.length_append, hxl, hsrc.len, Nat.add_mul]
      · rw [rep_length, hzl]; exact Nat.le_refl _
      · refine ho2.imp fun h hb' => ?_
        unfold row
        have e1 : (xs.toArray ++ news.toArray ++ Builtin.zeroCells v0.cells (grownCap w (n + m) cap e - (n + m))) = ([] ++ (xs ++ news) ++ rep (grownCap w (n + m) cap e - (n + m)) z).toArray := by
          apply Array.ext'
          rw [hzc]
          simp [zeroCells_rep z _ (by omega)]
        rw [← e1]
        exact hb'
    rcases ho1.own_out with ⟨rfl, rfl, rfl⟩ | ⟨gb, pre, post, cap, rfl, hn, hcm, _, hpl, horow⟩
    · by_cases hm : m = 0
      · subst hm
        have hnews : news = [] := List.eq_nil_of_length_eq_zero (by rw [hsrc.len]; simp)
        subst hnews
        refine ⟨_, w, run_append_none w hs.und hu hi hlen (by rw [h3]; exact hsrc.first w ho), back _ _ ?_⟩
        simpa using Own.own_nil (e := e) (sz := sz) ho1.tail
      · exact grow none 0 (by simp [Builtin.firstCells]) (by omega) rfl
    · obtain ⟨hheap, _⟩ := horow.sat.blk_heap
      by_cases hroom : n + m ≤ cap
      · have hfit : pre.length + n * sz + news.length ≤ (pre ++ xs ++ post).length := by
          have : (n + m) * sz ≤ cap * sz := Nat.mul_le_mul_right _ hroom
          have e1 : (cap - n) * sz = cap * sz - n * sz := Nat.sub_mul _ _ _
          have e2 : (n + m) * sz = n * sz + m * sz := Nat.add_mul _ _ _
          have e3 := hsrc.len
          simp only [List.length_append, hxl]
          omega
        have hst := run_storeCells_at P gb (pre.length + n * sz) e news 0 (pre ++ xs ++ post).toArray w hheap (by simpa using hfit) h1
        simp only [Nat.add_zero] at hst
        have e4 : ((pre ++ xs ++ post).toArray.toList.take (pre.length + n * sz) ++ news ++ (pre ++ xs ++ post).toArray.toList.drop (pre.length + n * sz + news.length)) = pre ++ (xs ++ news) ++ post.drop news.length := by
          have a1 : (pre ++ xs).length = pre.length + n * sz := by rw [List.length_append, hxl]
          simp only
          rw [← a1, List.take_left, List.drop_append]
          simp
        rw [e4] at hst
        refine ⟨_, _, run_append_fit w hs.und hu hi hlen (by rw [h3]; exact hsrc.first w ho) hroom (by rw [h3, addr_add]; exact hst), back _ _ ?_⟩
        refine Own.own_in hroom hcm (by rw [List.length_append, hxl, hsrc.len, Nat.add_mul]) ?_ (Own.setRow (cs := pre ++ xs ++ post) .head horow)
        rw [List.length_drop, hsrc.len]
        have e1 : (cap - n) * sz = cap * sz - n * sz := Nat.sub_mul _ _ _
        have e2 : (n + m) * sz = n * sz + m * sz := Nat.add_mul _ _ _
        have e3 : (cap - (n + m)) * sz = cap * sz - (n + m) * sz := Nat.sub_mul _ _ _
        omega
      · refine grow (some ⟨gb, pre.length, none⟩) cap ?_ (by omega) rfl
        refine run_firstCells_some w.drew inf.size n _ n cap xs (by rw [h3]; exact hxl) (fun j u hj => ?_)
        rw [addr_add]
        show w.cell? _ = _
        rw [cell_of_row w gb _ _ e _ hheap]
        have hj' : j < xs.length := (List.getElem?_eq_some_iff.1 hj).1
        simp only [List.getElem?_toArray]
        rw [List.append_assoc, List.getElem?_append_right (by omega), List.getElem?_append_left (by omega)]
        rw [show pre.length + j - pre.length = j from by omega]; exact hj
  obtain ⟨v', w', hrun, hown, hsh⟩ := key
  refine ⟨.value v', v', w', _, ?_, .inl rfl, ⟨hsh, rfl⟩, hown⟩
  simp [execOp, resolve, hx', hy', invoke, builtin, hrun]
end

end Go.Gp

namespace Go.Gp
open Go Go.RowKit

theorem wrap_id {k : IntKind} {n : Int} (h1 : k.min ≤ n) (h2 : n ≤ k.max) : k.wrap n = n := by
  cases k <;> simp [IntKind.wrap, IntKind.min, IntKind.max, IntKind.signed, IntKind.bits] at h1 h2 ⊢ <;> first | omega | (split <;> omega)

section
variable {P : Program} {env : Env} {dst : Option Tmp} {ty : TypeId} {pos : String} {after : Array Edge} {g : Option (Nat × Bool)}
theorem OpP.addI {x y : Operand} {t u : TypeId} {a b : Int} (hx : ev env x = some (.int .i64 a)) (hy : ev env y = some (.int .i64 b)) (h1 : -9223372036854775808 ≤ a + b) (h2 : a + b ≤ 9223372036854775807) : OpP P ⟨dst, .binOp .add t x y u, ty, pos, after, g⟩ env (.int .i64 (a + b)) :=
  (OpP.add hx hy).as (by rw [wrap_id (k := .i64)] <;> simp [IntKind.min, IntKind.max, IntKind.signed, IntKind.bits] <;> omega)
theorem OpP.subI {x y : Operand} {t u : TypeId} {a b : Int} (hx : ev env x = some (.int .i64 a)) (hy : ev env y = some (.int .i64 b)) (h1 : -9223372036854775808 ≤ a - b) (h2 : a - b ≤ 9223372036854775807) : OpP P ⟨dst, .binOp .sub t x y u, ty, pos, after, g⟩ env (.int .i64 (a - b)) :=
  (OpP.sub hx hy).as (by rw [wrap_id (k := .i64)] <;> simp [IntKind.min, IntKind.max, IntKind.signed, IntKind.bits] <;> omega)
theorem OpP.mulI {x y : Operand} {t u : TypeId} {a b : Int} (hx : ev env x = some (.int .i64 a)) (hy : ev env y = some (.int .i64 b)) (h1 : -9223372036854775808 ≤ a * b) (h2 : a * b ≤ 9223372036854775807) : OpP P ⟨dst, .binOp .mul t x y u, ty, pos, after, g⟩ env (.int .i64 (a * b)) :=
  (OpP.mul hx hy).as (by rw [wrap_id (k := .i64)] <;> simp [IntKind.min, IntKind.max, IntKind.signed, IntKind.bits] <;> omega)
theorem OpP.remI {x y : Operand} {t u : TypeId} {k : IntKind} {a b : Int} (hx : ev env x = some (.int k a)) (hy : ev env y = some (.int k b)) (h0 : 0 ≤ a) (h : 0 < b) : OpP P ⟨dst, .binOp .rem t x y u, ty, pos, after, g⟩ env (.int k (a % b)) :=
  (OpP.rem hx hy (by omega)).as (by rw [Int.tmod_eq_emod_of_nonneg h0])
theorem OpP.quoI {x y : Operand} {t u : TypeId} {k : IntKind} {a b : Int} (hx : ev env x = some (.int k a)) (hy : ev env y = some (.int k b)) (h0 : 0 ≤ a) (h : 0 < b) (h1 : a ≤ k.max) : OpP P ⟨dst, .binOp .quo t x y u, ty, pos, after, g⟩ env (.int k (a / b)) :=
  (OpP.quo hx hy (by omega)).as (by
    rw [Int.tdiv_eq_ediv_of_nonneg h0]
    have hd : 0 ≤ a / b := Int.ediv_nonneg h0 (by omega)
    have hd2 : a / b ≤ a := Int.ediv_le_self b h0
    have hmin : k.min ≤ 0 := by cases k <;> decide
    rw [wrap_id (k := k)] <;> omega)
/-- Widening, or a number that fits. -/
theorem OpP.convI {x : Operand} {s d : TypeId} {k k' ks : IntKind} {a : Int} [IntT P s ks] [IntT P d k'] (hx : ev env x = some (.int k a)) (h1 : k'.min ≤ a) (h2 : a ≤ k'.max) : OpP P ⟨dst, .convert s d x, ty, pos, after, g⟩ env (.int k' a) :=
  (OpP.conv (ks := ks) hx).as (by rw [wrap_id h1 h2])
theorem OpP.convI64 {x : Operand} {s d : TypeId} {k ks : IntKind} {a : Int} [IntT P s ks] [IntT P d .i64] (hx : ev env x = some (.int k a)) (h1 : -9223372036854775808 ≤ a) (h2 : a ≤ 9223372036854775807) : OpP P ⟨dst, .convert s d x, ty, pos, after, g⟩ env (.int .i64 a) :=
  (OpP.convI (ks := ks) hx (by simpa [IntKind.min, IntKind.signed, IntKind.bits] using h1) (by simpa [IntKind.max, IntKind.signed, IntKind.bits] using h2))

/-! Slicing. -/
theorem run_sliceBounds (w : World) {isS : Bool} {len cap l h : Nat} {lo hi : Option Value} (hlo : lo = none ∧ l = 0 ∨ ∃ k, lo = some (.int k (l : Int))) (hhi : hi = none ∧ h = len ∨ ∃ k, hi = some (.int k (h : Int))) (h1 : l ≤ h) (h2 : h ≤ cap) :
    (Instr.sliceBounds isS len cap lo hi none).run P w = .ok (l, h, cap) w := by
  rcases hlo with ⟨rfl, rfl⟩ | ⟨k, rfl⟩ <;> rcases hhi with ⟨rfl, rfl⟩ | ⟨k', rfl⟩ <;> simp [Instr.sliceBounds, Instr.sliceBound, asIntOf, h1, h2]

theorem OpP.slice {x : Operand} {lo hi : Option Operand} {vlo vhi : Option Value} {t e sz by_ b o len cap l h : Nat} [hs : Sl P t e sz by_] (hx : ev env x = some (.slice (some ⟨b, o, none⟩) len cap))
    (elo : lo.map (ev env) = vlo.map some) (ehi : hi.map (ev env) = vhi.map some)
    (hlo : vlo = none ∧ l = 0 ∨ ∃ k, vlo = some (.int k (l : Int))) (hhi : vhi = none ∧ h = len ∨ ∃ k, vhi = some (.int k (h : Int))) (h1 : l ≤ h) (h2 : h ≤ cap) :
    OpP P ⟨dst, .slice t x lo hi none, ty, pos, after, g⟩ env (.slice (some ⟨b, if cap = l then o else o + l * sz, none⟩) (h - l) (cap - l)) := by
  refine ⟨?_⟩
  intro ρ hr w
  have hx' := hr x (by simp [Op.operands]) _ hx
  have e1 : lo.map ρ = vlo := by
    cases lo with
    | none => cases vlo <;> simp at elo ⊢
    | some a => cases vlo with
      | none => simp at elo
      | some u => simp at elo; simp [hr a (by simp [Op.operands]) u elo]
  have e2 : hi.map ρ = vhi := by
    cases hi with
    | none => cases vhi <;> simp at ehi ⊢
    | some a => cases vhi with
      | none => simp at ehi
      | some u => simp at ehi; simp [hr a (by simp [Op.operands]) u ehi]
  obtain ⟨i, hi1, hi2, _, _⟩ := hs.inf
  have hb := run_sliceBounds (P := P) (isS := true) w hlo hhi h1 h2
  simp only [execOp, hx', e1, e2, Option.map_none, Instr.sliceAt, Sem.run_bind, run_underlying hs.und, Result.andThen_ok, Instr.slice, hb, run_sizeOf_info w hi1, hi2, Sem.run_pure]
  congr 3
  split
  · rfl
  · simp [addr_add]

theorem OpP.sliceA {x : Operand} {lo hi : Option Operand} {vlo vhi : Option Value} {t n e sz b o l h : Nat} [hs : Ar P t n e sz] (hx : ev env x = some (.pointer (some ⟨b, o, none⟩)))
    (elo : lo.map (ev env) = vlo.map some) (ehi : hi.map (ev env) = vhi.map some)
    (hlo : vlo = none ∧ l = 0 ∨ ∃ k, vlo = some (.int k (l : Int))) (hhi : vhi = none ∧ h = n ∨ ∃ k, vhi = some (.int k (h : Int))) (h1 : l ≤ h) (h2 : h ≤ n) :
    OpP P ⟨dst, .slice t x lo hi none, ty, pos, after, g⟩ env (.slice (some ⟨b, if n = l then o else o + l * sz, none⟩) (h - l) (n - l)) := by
  refine ⟨?_⟩
  intro ρ hr w
  have hx' := hr x (by simp [Op.operands]) _ hx
  have e1 : lo.map ρ = vlo := by
    cases lo with
    | none => cases vlo <;> simp at elo ⊢
    | some a => cases vlo with
      | none => simp at elo
      | some u => simp at elo; simp [hr a (by simp [Op.operands]) u elo]
  have e2 : hi.map ρ = vhi := by
    cases hi with
    | none => cases vhi <;> simp at ehi ⊢
    | some a => cases vhi with
      | none => simp at ehi
      | some u => simp at ehi; simp [hr a (by simp [Op.operands]) u ehi]
  obtain ⟨i, hi1, hi2, _⟩ := hs.inf
  have hb := run_sliceBounds (P := P) (isS := false) w hlo hhi h1 h2
  simp only [execOp, hx', e1, e2, Option.map_none, Instr.sliceAt, Sem.run_bind, run_underlying hs.und, Result.andThen_ok, Instr.sureAddr, hb, run_sizeOf_info w hi1, hi2, Sem.run_pure]
  congr 3
  split
  · rfl
  · simp [addr_add]

/-! Pointers against nil; strings. -/
def plainOp : Value → Value → Bool
  | .nilIface, .nilIface => false
  | .agg _, .agg _ => false
  | _, _ => true

theorem eqGuard_ok {op : BinOp} {t : TypeId} {x y : Operand} {a b : Value} {w : World} (h : plainOp a b = true) : (eqGuard op t x y a b).run P w = .ok () w := by
  cases a <;> first
    | (unfold eqGuard; split <;> rfl)
    | (cases b <;> first
        | (simp [plainOp] at h; done)
        | (unfold eqGuard; split <;> rfl))

theorem OpP.eqGen {op : BinOp} {x y : Operand} {t u : TypeId} {a b v : Value} (hx : ev env x = some a) (hy : ev env y = some b) (h : plainOp a b = true)
    (hrun : ∀ w, (binOp op t a b).run P w = .ok v w) : OpP P ⟨dst, .binOp op t x y u, ty, pos, after, g⟩ env v := by
  refine ⟨?_⟩
  intro ρ hr w
  have hx' := hr x (by simp [Op.operands]) _ hx
  have hy' := hr y (by simp [Op.operands]) _ hy
  simp only [execOp, hx', hy', Sem.run_bind, eqGuard_ok (P := P) (op := op) (t := t) (x := x) (y := y) (w := w) h, Result.andThen_ok, hrun, Sem.run_pure]

theorem OpP.eqPtrNil {x y : Operand} {t u e : TypeId} {p : Option Addr} [ht : PtrT P t e] (hx : ev env x = some (.pointer p)) (hy : ev env y = some (.pointer none)) : OpP P ⟨dst, .binOp .eql t x y u, ty, pos, after, g⟩ env (.bool p.isNone) :=
  OpP.eqGen hx hy rfl fun w => by rw [run_eql_pointer_nil w t p (by simp [Program.pointee, ht.h])]

theorem OpP.nePtrNil {x y : Operand} {t u e : TypeId} {p : Option Addr} [ht : PtrT P t e] (hx : ev env x = some (.pointer p)) (hy : ev env y = some (.pointer none)) : OpP P ⟨dst, .binOp .neq t x y u, ty, pos, after, g⟩ env (.bool (!p.isNone)) :=
  OpP.eqGen hx hy rfl fun w => by rw [run_neq_pointer_nil w t p (by simp [Program.pointee, ht.h])]

theorem bytes_toList_eq (a b : ByteArray) : (a.toList == b.toList) = decide (a = b) := by
  by_cases h : a = b
  · subst h; simp
  · have hne : a.toList ≠ b.toList := by
      intro e
      apply h
      have e1 : a.toList = a.data.toList := by
        exact ByteArray.toList_eq a
      have e2 : b.toList = b.data.toList := by
        exact ByteArray.toList_eq b
      rw [e1, e2] at e
      cases a; cases b; simp at e ⊢; exact e
    simp [h, hne]

theorem OpP.eqStr {x y : Operand} {t u : TypeId} {a b : ByteArray} (hx : ev env x = some (.string a)) (hy : ev env y = some (.string b)) : OpP P ⟨dst, .binOp .eql t x y u, ty, pos, after, g⟩ env (.bool (decide (a = b))) :=
  OpP.str hx hy (fun w => by simp [Op.stringOp, bytes_toList_eq]) rfl
theorem OpP.neStr {x y : Operand} {t u : TypeId} {a b : ByteArray} (hx : ev env x = some (.string a)) (hy : ev env y = some (.string b)) : OpP P ⟨dst, .binOp .neq t x y u, ty, pos, after, g⟩ env (.bool (decide (a ≠ b))) :=
  OpP.str hx hy (fun w => by simp [Op.stringOp, bytes_toList_eq]) rfl
theorem OpP.eqBool {x y : Operand} {t u : TypeId} {a b : Bool} [ht : BoolT P t] (hx : ev env x = some (.bool a)) (hy : ev env y = some (.bool b)) : OpP P ⟨dst, .binOp .eql t x y u, ty, pos, after, g⟩ env (.bool (decide (a = b))) :=
  OpP.eqGen hx hy rfl fun w => by rw [run_eql_bool w t a b ht.h]; cases a <;> cases b <;> rfl
theorem OpP.neBool {x y : Operand} {t u : TypeId} {a b : Bool} [ht : BoolT P t] (hx : ev env x = some (.bool a)) (hy : ev env y = some (.bool b)) : OpP P ⟨dst, .binOp .neq t x y u, ty, pos, after, g⟩ env (.bool (decide (a ≠ b))) :=
  OpP.eqGen hx hy rfl fun w => by rw [run_neq_bool w t a b ht.h]; cases a <;> cases b <;> rfl
end

theorem run_loadVar_agg {P : Program} {w0 : World} {l : List HProp} {t n b o : Nat} {vs : List Value} [Agg P t n] (hc : Cells w0 l b o vs) (hn : vs.length = n) : ∀ w, Own w0 w l → (loadVar t ⟨b, o, none⟩).run P w = .ok (.agg vs.toArray) w := by
  intro w ho
  have hl := run_loadCells_list (P := P) w ⟨b, o, none⟩ vs (fun j v hv => by rw [addr_add]; exact hc w ho j v hv)
  rw [hn] at hl
  simp [loadVar, run_isAgg_agg, run_sizeOf_agg, hl]
section
variable {C : Cx} {k : List Item} {env : Env} {l : List HProp}
theorem J.ret0 (hx : C.fn.results = #[]) (h : C.R (.tuple #[]) l) (hout : C.ro = none ∧ C.ds = [] := by exact ⟨rfl, rfl⟩) : J C (.code .ret :: k) env l := J.ret (ResOk.of (xs := []) hx .nil) h hout
theorem J.ret1 {t : Tmp} {v : Value} (hx : C.fn.results = #[.tmp t]) (h1 : Env.get env t = some v) (h : C.R v l) (hout : C.ro = none ∧ C.ds = [] := by exact ⟨rfl, rfl⟩) : J C (.code .ret :: k) env l := J.ret (ResOk.of (xs := [_]) hx (.tmp h1 .nil)) h hout
theorem J.ret2 {t u : Tmp} {v v2 : Value} (hx : C.fn.results = #[.tmp t, .tmp u]) (h1 : Env.get env t = some v) (h2 : Env.get env u = some v2) (h : C.R (.tuple #[v, v2]) l) (hout : C.ro = none ∧ C.ds = [] := by exact ⟨rfl, rfl⟩) : J C (.code .ret :: k) env l := J.ret (ResOk.of (xs := [_, _]) hx (.tmp h1 (.tmp h2 .nil))) h hout
theorem J.ret3 {t u s : Tmp} {v v2 v3 : Value} (hx : C.fn.results = #[.tmp t, .tmp u, .tmp s]) (h1 : Env.get env t = some v) (h2 : Env.get env u = some v2) (h3 : Env.get env s = some v3) (h : C.R (.tuple #[v, v2, v3]) l) (hout : C.ro = none ∧ C.ds = [] := by exact ⟨rfl, rfl⟩) : J C (.code .ret :: k) env l := J.ret (ResOk.of (xs := [_, _, _]) hx (.tmp h1 (.tmp h2 (.tmp h3 .nil)))) h hout
theorem J.retC {t ty n b o : Nat} {vs : List Value} (hx : C.fn.results = #[.cell t ty]) (h1 : Env.get env t = some (.pointer (some ⟨b, o, none⟩))) [Agg C.P ty n] (hc : Cells C.w0 l b o vs) (hn : vs.length = n) (h : C.R (.agg vs.toArray) l) (hout : C.ro = none ∧ C.ds = [] := by exact ⟨rfl, rfl⟩) : J C (.code .ret :: k) env l :=
  J.ret (ResOk.of (xs := [_]) hx (.cell h1 (run_loadVar_agg hc hn) .nil)) h hout
theorem J.retC2 {t u ty n b o : Nat} {vs : List Value} {v2 : Value} (hx : C.fn.results = #[.cell t ty, .tmp u]) (h1 : Env.get env t = some (.pointer (some ⟨b, o, none⟩))) [Agg C.P ty n] (hc : Cells C.w0 l b o vs) (hn : vs.length = n) (h2 : Env.get env u = some v2) (h : C.R (.tuple #[.agg vs.toArray, v2]) l) (hout : C.ro = none ∧ C.ds = [] := by exact ⟨rfl, rfl⟩) : J C (.code .ret :: k) env l :=
  J.ret (ResOk.of (xs := [_, _]) hx (.cell h1 (run_loadVar_agg hc hn) (.tmp h2 .nil))) h hout
theorem J.retC3 {t u s ty n b o : Nat} {vs : List Value} {v2 v3 : Value} (hx : C.fn.results = #[.cell t ty, .tmp u, .tmp s]) (h1 : Env.get env t = some (.pointer (some ⟨b, o, none⟩))) [Agg C.P ty n] (hc : Cells C.w0 l b o vs) (hn : vs.length = n) (h2 : Env.get env u = some v2) (h3 : Env.get env s = some v3) (h : C.R (.tuple #[.agg vs.toArray, v2, v3]) l) (hout : C.ro = none ∧ C.ds = [] := by exact ⟨rfl, rfl⟩) : J C (.code .ret :: k) env l :=
  J.ret (ResOk.of (xs := [_, _, _]) hx (.cell h1 (run_loadVar_agg hc hn) (.tmp h2 (.tmp h3 .nil)))) h hout
theorem J.fin0 (hx : C.fn.results = #[]) (h : C.R (.tuple #[]) l) (hout : C.ro = none ∧ C.ds = [] := by exact ⟨rfl, rfl⟩) : J C [] env l := J.fin (ResOk.of (xs := []) hx .nil) h hout
end

/-! Tests. -/
section
variable {C : Cx} {ops rest : List Oper} {o : Oper} {k : List Item} {env : Env} {l : List HProp} {d : Tmp} {op : Op} {ty : TypeId} {pos : String} {after : Array Edge} {g : Option (Nat × Bool)}

theorem JL.dec {p : Prop} [Decidable p] (hg : Gd ops env g = some true) (hd : Nat.blt d C.n = true) (hop : OpP C.P ⟨some d, op, ty, pos, after, g⟩ env (.bool (decide p))) (h1 : p → JL C ops rest k ((d, .bool true) :: env) l) (h2 : ¬ p → JL C ops rest k ((d, .bool false) :: env) l) : JL C ops (⟨some d, op, ty, pos, after, g⟩ :: rest) k env l := by
  by_cases hp : p
  · refine JL.pure hg hd (v := .bool true) (by simpa [hp] using hop) (h1 hp)
  · refine JL.pure hg hd (v := .bool false) (by simpa [hp] using hop) (h2 hp)
theorem JL.decT {p : Prop} [Decidable p] (hg : Gd ops env g = some true) (hd : Nat.blt d C.n = true) (hop : OpP C.P ⟨some d, op, ty, pos, after, g⟩ env (.bool (decide p))) (hp : p) (h : JL C ops rest k ((d, .bool true) :: env) l) : JL C ops (⟨some d, op, ty, pos, after, g⟩ :: rest) k env l :=
  JL.dec hg hd hop (fun _ => h) (fun hn => absurd hp hn)
theorem JL.decF {p : Prop} [Decidable p] (hg : Gd ops env g = some true) (hd : Nat.blt d C.n = true) (hop : OpP C.P ⟨some d, op, ty, pos, after, g⟩ env (.bool (decide p))) (hp : ¬ p) (h : JL C ops rest k ((d, .bool false) :: env) l) : JL C ops (⟨some d, op, ty, pos, after, g⟩ :: rest) k env l :=
  JL.dec hg hd hop (fun hn => absurd hn hp) (fun _ => h)
theorem JL.bool {c : Bool} (hg : Gd ops env g = some true) (hd : Nat.blt d C.n = true) (hop : OpP C.P ⟨some d, op, ty, pos, after, g⟩ env (.bool c)) (h1 : c = true → JL C ops rest k ((d, .bool true) :: env) l) (h2 : c = false → JL C ops rest k ((d, .bool false) :: env) l) : JL C ops (⟨some d, op, ty, pos, after, g⟩ :: rest) k env l := by
  cases c
  · exact JL.pure hg hd hop (h2 rfl)
  · exact JL.pure hg hd hop (h1 rfl)
end

end Go.Gp

namespace Go.Gp
open Go Go.RowKit

/-! A region that draws its order. -/

section
variable {P : Program} {ops : Array Oper} {Q : Exit → Act → World → Prop} {Cl : World → Prop} {fin : Nat → Bool}

def wpC (P : Program) (ops : Array Oper) (Q : Exit → Act → World → Prop) (Cl : World → Prop) (fin : Nat → Bool) : Nat → Array Bool → Act → World → Prop
  | 0, listed, a, w => Region.ready .any ops listed = [] ∧ Q .normal a w
  | fuel + 1, listed, a, w =>
    (Region.ready .any ops listed = [] → Q .normal a w) ∧
    ∀ i ∈ Region.ready .any ops listed, wpOp P ops Q i (fun a' w' => (fin i = true ∨ (Cl w → Cl w')) ∧ wpC P ops Q Cl fin fuel (listed.setIfInBounds i true) a' w') a w

theorem wpC_any : ∀ (fuel : Nat) (listed : Array Bool) (a : Act) (w : World), wpC P ops Q Cl fin fuel listed a w → wpAny P .any ops Q fuel listed a w
  | 0, _, _, _, h => h
  | fuel + 1, _, _, _, h => ⟨h.1, fun i hi => wpOp_mono (fun a' w' h' => wpC_any fuel _ a' w' h'.2) (h.2 i hi)⟩

def YieldsC (P : Program) (ops : Array Oper) (Cl : World → Prop) (o : Oper) (v : Value) (a : Act) : Prop :=
  (Region.wanted o (yielded ops a.tmps) = true ∧ ∀ w, Cl w → (execOp a.eval o).run P w = .ok (.value v) w) ∨
  (Region.wanted o (yielded ops a.tmps) = false ∧ v = undef)

theorem YieldsC.wpOp {i : Nat} {o : Oper} {v : Value} {a : Act} (hi : ops[i]? = some o) (hy : YieldsC P ops Cl o v a)
    {K : Act → World → Prop} {w : World} (hw : Cl w) (h : K (a.put o.dst v) w) : wpOp P ops Q i K a w := by
  unfold Go.wpOp
  simp only [hi]
  rcases hy with ⟨hw', hv⟩ | ⟨hw', rfl⟩
  · simp only [hw', if_true, Oper.wp, hv w hw, Oper.upon]; exact .inl h
  · simp only [hw', Bool.false_eq_true, if_false]; exact h

theorem YieldsC.of_same {o : Oper} {v : Value} {a a' : Act} (hy : YieldsC P ops Cl o v a) (he : execOp a'.eval o = execOp a.eval o)
    (hw : Region.wanted o (yielded ops a'.tmps) = Region.wanted o (yielded ops a.tmps)) : YieldsC P ops Cl o v a' := by
  unfold YieldsC at *
  rw [he, hw]
  exact hy

theorem wpOp_putC {j : Nat} {oi oj : Oper} {v : Value} (hj : ops[j]? = some oj) (hap : oi.apart ops oj = true)
    (hsi : ∀ cs b, oi.op ≠ .select cs b) (hsj : ∀ cs b, oj.op ≠ .select cs b)
    (hQ : ∀ c a w, Q (.panic c) (a.put oi.dst v) w → Q (.panic c) a w) {K : Act → World → Prop} {a : Act} {w : World}
    (hy : YieldsC P ops Cl oi v a) (h : wpOp P ops Q j K (a.put oi.dst v) w) :
    wpOp P ops Q j (fun a' w' => YieldsC P ops Cl oi v a' ∧ K (a'.put oi.dst v) w') a w := by
  obtain ⟨h1, h2, h3⟩ := Oper.apart_spec hap
  have keep : ∀ (a : Act), YieldsC P ops Cl oi v a → ∀ u, YieldsC P ops Cl oi v (a.put oj.dst u) := fun a hy u =>
    hy.of_same (execOp_put oi hsi a oj.dst u h3) (wanted_put oi a oj.dst u h3)
  have keepD : ∀ d, YieldsC P ops Cl oi v { a with defers := d :: a.defers } := fun d => hy.of_same rfl rfl
  unfold wpOp at *
  simp only [hj] at *
  rw [wanted_put oj a oi.dst v h1] at h
  split
  · rename_i hw
    simp only [hw, if_true] at h
    rcases h with h | ⟨hasks, hlets⟩
    case inr => exact .inr ⟨by unfold Oper.asks at *; rw [execOp_put oj hsj a oi.dst v h1] at hasks; exact hasks, hlets⟩
    refine .inl ?_
    unfold Oper.wp at *
    rw [execOp_put oj hsj a oi.dst v h1] at h
    generalize (execOp a.eval oj).run P w = r at *
    cases r with
    | ok n w' =>
      cases n <;> simp only [Oper.upon] at h ⊢
      case value u => exact ⟨keep a hy u, by rw [← Act.put_comm a v u h2]; exact h⟩
      case skip => exact ⟨keep a hy _, by rw [← Act.put_comm a v undef h2]; exact h⟩
      case defer d =>
        refine ⟨keep _ (keepD d) _, ?_⟩
        rw [← Act.put_comm _ v undef h2, ← Act.put_defers]
        exact h
      case enter f args =>
        refine Calls.mono h fun e w'' he => ?_
        cases e with
        | returned u => exact ⟨keep a hy u, by rw [← Act.put_comm a v u h2]; exact he⟩
        | panicked c => exact hQ _ _ _ he
        | outgrown => exact he
      case row row args => exact Rows.mono h fun u w'' he => ⟨keep a hy u, by rw [← Act.put_comm a v u h2]; exact he⟩
    | halt x w' =>
      cases x <;> simp only [Oper.upon] at h ⊢
      case panic u => exact hQ _ _ _ h
  · rename_i hw
    simp only [hw] at h
    exact ⟨keep a hy _, by rw [← Act.put_comm a v undef h2]; exact h⟩

/-- Every operation that has come up: so has all that it waits for. -/
def Closed (ops : Array Oper) (listed : Array Bool) : Prop :=
  ∀ j o, ops[j]? = some o → listed.getD j false = true → ∀ e ∈ o.after, Region.binds .any e = true → listed.getD e.on false = true

theorem Closed.add {listed : Array Bool} {j : Nat} (h : Closed ops listed) (hj : j ∈ Region.ready .any ops listed) : Closed ops (listed.setIfInBounds j true) := by
  intro i o ho hi e he hb
  by_cases hij : i = j
  · subst hij
    obtain ⟨_, o', ho', hall⟩ := mem_ready.1 hj
    rw [ho] at ho'; cases ho'
    exact getD_set_true (hall e he hb)
  · rw [getD_set_ne false (Ne.symm hij)] at hi
    exact getD_set_true (h i o ho hi e he hb)

def reach (ops : Array Oper) : Nat → Nat → Nat → Bool
  | 0, _, _ => false
  | f + 1, j, i => match ops[j]? with
    | none => false
    | some o => o.after.toList.any fun e => Region.binds .any e && (Nat.beq e.on i || reach ops f e.on i)

theorem reach_listed {listed : Array Bool} (hc : Closed ops listed) : ∀ (f j i : Nat), (∀ o, ops[j]? = some o → ∀ e ∈ o.after, Region.binds .any e = true → listed.getD e.on false = true) → reach ops f j i = true → listed.getD i false = true
  | 0, _, _, _, h => by simp [reach] at h
  | f + 1, j, i, hd, h => by
    unfold reach at h
    cases ho : ops[j]? with
    | none => simp [ho] at h
    | some o =>
      simp only [ho, List.any_eq_true, Bool.and_eq_true, Bool.or_eq_true] at h
      obtain ⟨e, he, hb, h⟩ := h
      have he' : e ∈ o.after := by simpa using he
      have hle := hd o ho e he' hb
      rcases h with h | h
      · have := Nat.eq_of_beq_eq_true h; rw [this] at hle; exact hle
      · exact reach_listed hc f e.on i (fun o' ho' e' he'' hb' => hc e.on o' ho' hle e' he'' hb') h

theorem getD_true_false {listed : Array Bool} {i : Nat} (h : listed.getD i true = false) : listed.getD i false = false := by
  rcases Nat.lt_or_ge i listed.size with h' | h'
  · simp [h'] at h ⊢; exact h
  · simp [Array.getElem?_eq_none h'] at h

theorem wpC_first {i : Nat} {oi : Oper} {v : Value} (hi : ops[i]? = some oi) (hsel : ∀ (j : Nat) (o : Oper) cs b, ops[j]? = some o → o.op ≠ .select cs b)
    (hQ : ∀ c a w, Q (.panic c) (a.put oi.dst v) w → Q (.panic c) a w) (hfin : ∀ j, fin j = true → ∃ f, reach ops f j i = true) :
    ∀ (fuel : Nat) (listed : Array Bool) (a : Act) (w : World), Closed ops listed →
      (∀ j oj, ops[j]? = some oj → j ≠ i → listed.getD j true = false → (∀ e ∈ oj.after, Region.binds .any e = true → e.on ≠ i) → oi.apart ops oj = true) →
      i ∈ Region.ready .any ops listed → Cl w → YieldsC P ops Cl oi v a →
      wpC P ops Q Cl fin fuel (listed.setIfInBounds i true) (a.put oi.dst v) w → wpC P ops Q Cl fin (fuel + 1) listed a w := by
  intro fuel
  induction fuel with
  | zero =>
    intro listed a w _ _ hr hw hy H
    refine ⟨fun h => (by rw [h] at hr; cases hr), fun j hj => ?_⟩
    by_cases hji : j = i
    · subst hji; exact hy.wpOp hi hw ⟨.inr fun h => h, H⟩
    · have := ready_mono hj hji
      rw [H.1] at this
      cases this
  | succ fuel ih =>
    intro listed a w hcl hfree hr hw hy H
    refine ⟨fun h => (by rw [h] at hr; cases hr), fun j hj => ?_⟩
    by_cases hji : j = i
    · subst hji; exact hy.wpOp hi hw ⟨.inr fun h => h, H⟩
    · have h1 := H.2 j (ready_mono hj hji)
      obtain ⟨hjun, oj, hoj, hall⟩ := mem_ready.1 hj
      have hiun := getD_true_false (mem_ready.1 hr).1
      have hnofin : fin j = true → False := fun hf => by
        obtain ⟨f, hre⟩ := hfin j hf
        have := reach_listed hcl f j i (fun o ho e he hb => by rw [hoj] at ho; cases ho; exact hall e he hb) hre
        rw [hiun] at this; cases this
      have hnot : ∀ e ∈ oj.after, Region.binds .any e = true → e.on ≠ i := fun e he hb heq => by
        have h1 := hall e he hb
        rw [heq, hiun] at h1; cases h1
      have h2 := wpOp_putC hoj (hfree j oj hoj hji hjun hnot) (fun cs b => hsel i oi cs b hi) (fun cs b => hsel j oj cs b hoj) hQ hy h1
      have hfree' : ∀ k ok, ops[k]? = some ok → k ≠ i → (listed.setIfInBounds j true).getD k true = false →
          (∀ e ∈ ok.after, Region.binds .any e = true → e.on ≠ i) → oi.apart ops ok = true := fun k ok hk hki hun hno => by
        refine hfree k ok hk hki ?_ hno
        by_cases hjk : j = k
        · subst hjk; exact hjun
        · rw [getD_set_ne true hjk] at hun; exact hun
      refine wpOp_mono (fun a' w' h3 => ?_) h2
      obtain ⟨h3y, h3c, h3w⟩ := h3
      have hcw : Cl w' := (h3c.resolve_left fun h => hnofin h) hw
      refine ⟨.inr fun _ => hcw, ih (listed.setIfInBounds j true) a' w' (hcl.add hj) hfree' (ready_mono hr (Ne.symm hji)) hcw h3y ?_⟩
      rw [Array.setIfInBounds_comm _ _ hji]
      exact h3w

/-- The same for an operation that looks at no memory. -/
theorem wpC_firstP {i : Nat} {oi : Oper} {v : Value} (hi : ops[i]? = some oi) (hsel : ∀ (j : Nat) (o : Oper) cs b, ops[j]? = some o → o.op ≠ .select cs b)
    (hQ : ∀ c a w, Q (.panic c) (a.put oi.dst v) w → Q (.panic c) a w) :
    ∀ (fuel : Nat) (listed : Array Bool) (a : Act) (w : World),
      (∀ j oj, ops[j]? = some oj → j ≠ i → listed.getD j true = false → (∀ e ∈ oj.after, Region.binds .any e = true → e.on ≠ i) → oi.apart ops oj = true) →
      i ∈ Region.ready .any ops listed → Yields P ops oi v a →
      wpC P ops Q Cl fin fuel (listed.setIfInBounds i true) (a.put oi.dst v) w → wpC P ops Q Cl fin (fuel + 1) listed a w := by
  intro fuel
  induction fuel with
  | zero =>
    intro listed a w _ hr hy H
    refine ⟨fun h => (by rw [h] at hr; cases hr), fun j hj => ?_⟩
    by_cases hji : j = i
    · subst hji; exact hy.wpOp hi ⟨.inr fun h => h, H⟩
    · have := ready_mono hj hji
      rw [H.1] at this
      cases this
  | succ fuel ih =>
    intro listed a w hfree hr hy H
    refine ⟨fun h => (by rw [h] at hr; cases hr), fun j hj => ?_⟩
    by_cases hji : j = i
    · subst hji; exact hy.wpOp hi ⟨.inr fun h => h, H⟩
    · have h1 := H.2 j (ready_mono hj hji)
      obtain ⟨hjun, oj, hoj, hall⟩ := mem_ready.1 hj
      have hiun := getD_true_false (mem_ready.1 hr).1
      have hnot : ∀ e ∈ oj.after, Region.binds .any e = true → e.on ≠ i := fun e he hb heq => by
        have h1 := hall e he hb
        rw [heq, hiun] at h1; cases h1
      have h2 := wpOp_put hoj (hfree j oj hoj hji hjun hnot) (fun cs b => hsel i oi cs b hi) (fun cs b => hsel j oj cs b hoj) hQ hy h1
      have hfree' : ∀ k ok, ops[k]? = some ok → k ≠ i → (listed.setIfInBounds j true).getD k true = false →
          (∀ e ∈ ok.after, Region.binds .any e = true → e.on ≠ i) → oi.apart ops ok = true := fun k ok hk hki hun hno => by
        refine hfree k ok hk hki ?_ hno
        by_cases hjk : j = k
        · subst hjk; exact hjun
        · rw [getD_set_ne true hjk] at hun; exact hun
      refine wpOp_mono (fun a' w' h3 => ?_) h2
      obtain ⟨h3y, h3c, h3w⟩ := h3
      refine ⟨h3c, ih (listed.setIfInBounds j true) a' w' hfree' (ready_mono hr (Ne.symm hji)) h3y ?_⟩
      rw [Array.setIfInBounds_comm _ _ hji]
      exact h3w
end

/-! The same over what is known of the slots and of memory. -/

def finB (ops : Array Oper) (rd : List Nat) (j : Nat) : Bool := rd.all fun r => reach ops ops.size j r

def closedB (ops : Array Oper) (listed : Array Bool) : Bool :=
  (List.range ops.size).all fun j => !listed.getD j false || match ops[j]? with
    | some o => o.after.toList.all fun e => !Region.binds .any e || listed.getD e.on false
    | none => true

theorem closedB_spec {ops : Array Oper} {listed : Array Bool} (h : closedB ops listed = true) : Closed ops listed := by
  intro j o ho hj e he hb
  simp only [closedB, List.all_eq_true, List.mem_range] at h
  have := h j (Array.getElem?_eq_some_iff.1 ho).1
  simp only [hj, Bool.not_true, Bool.false_or, ho, List.all_eq_true] at this
  have := this e (by simpa using he)
  simpa [hb] using this

/-- It may be taken first. -/
def takeB (ops : Array Oper) (listed : Array Bool) (i : Nat) : Bool :=
  (Region.ready .any ops listed).contains i && Region.free .any ops listed i

def readB (ops : Array Oper) (listed : Array Bool) (rd : List Nat) (i : Nat) : Bool := takeB ops listed i && closedB ops listed && rd.contains i

structure DL (C : Cx) (ops : List Oper) (rd : List Nat) (cl : List HProp) (fuel : Nat) (listed : List Bool) (k : List Item) (env : Env) (l : List HProp) : Prop where
  go : C.P.funcs[C.f]? = some C.fn → ∀ a w, EnvOk C.n C.ds a env → Own C.w0 w l →
    wpC C.P ops.toArray (QN C k) (fun w => Own C.w0 w cl) (finB ops.toArray rd) fuel listed.toArray a w

structure DL1 (C : Cx) (ops : List Oper) (rd : List Nat) (cl : List HProp) (fuel : Nat) (listed : List Bool) (i : Nat) (k : List Item) (env : Env) (l : List HProp) : Prop where
  go : C.P.funcs[C.f]? = some C.fn → ∀ a w, EnvOk C.n C.ds a env → Own C.w0 w l →
    wpOp C.P ops.toArray (QN C k) i (fun a' w' => (finB ops.toArray rd i = true ∨ (Own C.w0 w cl → Own C.w0 w' cl)) ∧ wpC C.P ops.toArray (QN C k) (fun w => Own C.w0 w cl) (finB ops.toArray rd) fuel (listed.set i true).toArray a' w') a w

section
variable {C : Cx} {ops : List Oper} {rd : List Nat} {cl : List HProp} {fuel : Nat} {listed : List Bool} {k : List Item} {env : Env} {l : List HProp}

theorem J.regionD (rd : List Nat) {id : Nat} (hm : C.P.follows .mixedOrders = true) (h : DL C ops rd l ops.length (List.replicate ops.length false) k env l) (hro : C.ro = none := by rfl) : J C (.code (.region id ops.toArray true) :: k) env l := by
  refine ⟨fun hf a w he ho b cs hb hk hbr => ?_⟩
  have hd : Own C.w0 { w with drawn := w.drawn + 1 } l := ho.same ((Below.refl _ _).drew)
  have h1 := wpC_any _ _ _ _ (h.go hf a _ he hd)
  obtain ⟨e, a', w', ⟨rfl, hq⟩, harr⟩ := wp_region_any (P := C.P) (id := id) (ops := ops.toArray) hm (by simpa using h1) b k cs
  have e1 : ∀ a k, b.atR a k = b.at a k := fun a k => Frame.atR_of_none (hbr.trans hro) a k
  have h2 := hq b cs hb hk hbr
  rw [e1] at h2 ⊢
  exact .of_steps harr h2

theorem DL.done (hr : Region.ready .any ops.toArray listed.toArray = []) (h : J C k env l) : DL C ops rd cl fuel listed k env l := by
  refine ⟨fun hf a w he ho => ?_⟩
  cases fuel with
  | zero => exact ⟨hr, rfl, h.go hf a w he ho⟩
  | succ f => exact ⟨fun _ => ⟨rfl, h.go hf a w he ho⟩, fun i hi => by rw [hr] at hi; cases hi⟩

theorem QN_panic (v : Value) (d : Option Tmp) : ∀ c a w, QN C k (.panic c) (a.put d v) w → QN C k (.panic c) a w := fun _ _ _ h => by cases h.1

variable {d : Tmp} {op : Op} {ty : TypeId} {pos : String} {after : Array Edge} {g : Option (Nat × Bool)} {v : Value} {R : Value → List HProp → Prop}

theorem toArray_set (i : Nat) : (listed.set i true).toArray = listed.toArray.setIfInBounds i true := by simp

theorem DL.take {i : Nat} (hs : Region.noSelect ops.toArray = true) (ht : takeB ops.toArray listed.toArray i = true) (ho : ops[i]? = some ⟨some d, op, ty, pos, after, g⟩) (hd : Nat.blt d C.n = true)
    (hy : ∀ a, EnvOk C.n C.ds a env → Yields C.P ops.toArray ⟨some d, op, ty, pos, after, g⟩ v a) (h : DL C ops rd cl fuel (listed.set i true) k ((d, v) :: env) l) : DL C ops rd cl (fuel + 1) listed k env l := by
  refine ⟨fun hf a w he how => ?_⟩
  simp only [takeB, Bool.and_eq_true] at ht
  have hi : ops.toArray[i]? = some ⟨some d, op, ty, pos, after, g⟩ := by simpa using ho
  refine wpC_firstP hi (Region.noSelect_spec hs) (QN_panic _ _) fuel _ a w (Region.free_spec hi ht.2) (by simpa using ht.1) (hy a he) ?_
  rw [← toArray_set]
  exact h.go hf _ w (he.put (d := some d) hd v) how

theorem DL.pure {i : Nat} (hs : Region.noSelect ops.toArray = true) (ht : takeB ops.toArray listed.toArray i = true) (ho : ops[i]? = some ⟨some d, op, ty, pos, after, g⟩) (hg : Gd ops env g = some true) (hd : Nat.blt d C.n = true)
    (hop : OpP C.P ⟨some d, op, ty, pos, after, g⟩ env v) (h : DL C ops rd cl fuel (listed.set i true) k ((d, v) :: env) l) : DL C ops rd cl (fuel + 1) listed k env l :=
  DL.take hs ht ho hd (fun _ he => .inl ⟨Gd.wanted (o := ⟨some d, op, ty, pos, after, g⟩) he hg, fun w => hop.run _ (he.rds _) w⟩) h

theorem DL.skip {i : Nat} (hs : Region.noSelect ops.toArray = true) (ht : takeB ops.toArray listed.toArray i = true) (ho : ops[i]? = some ⟨some d, op, ty, pos, after, g⟩) (hg : Gd ops env g = some false) (hd : Nat.blt d C.n = true)
    (h : DL C ops rd cl fuel (listed.set i true) k ((d, undef) :: env) l) : DL C ops rd cl (fuel + 1) listed k env l :=
  DL.take hs ht ho hd (fun _ he => .inr ⟨Gd.wanted (o := ⟨some d, op, ty, pos, after, g⟩) he hg, rfl⟩) h

theorem DL.read {i : Nat} (hs : Region.noSelect ops.toArray = true) (ht : readB ops.toArray listed.toArray rd i = true) (ho : ops[i]? = some ⟨some d, op, ty, pos, after, g⟩) (hg : Gd ops env g = some true) (hd : Nat.blt d C.n = true)
    (hcl : ∀ w, Own C.w0 w l → Own C.w0 w cl) (hop : OpR C.P C.w0 ⟨some d, op, ty, pos, after, g⟩ env cl v) (h : DL C ops rd cl fuel (listed.set i true) k ((d, v) :: env) l) : DL C ops rd cl (fuel + 1) listed k env l := by
  refine ⟨fun hf a w he how => ?_⟩
  simp only [readB, takeB, Bool.and_eq_true] at ht
  obtain ⟨⟨⟨ht1, ht2⟩, ht3⟩, ht4⟩ := ht
  have hi : ops.toArray[i]? = some ⟨some d, op, ty, pos, after, g⟩ := by simpa using ho
  refine wpC_first hi (Region.noSelect_spec hs) (QN_panic _ _) (fun j hj => ⟨ops.toArray.size, ?_⟩) fuel _ a w (closedB_spec ht3) (Region.free_spec hi ht2) (by simpa using ht1) (hcl w how) (.inl ⟨Gd.wanted (o := ⟨some d, op, ty, pos, after, g⟩) he hg, fun w' hw' => hop.run _ (he.rds _) w' hw'⟩) ?_
  · simp only [finB, List.all_eq_true] at hj
    exact hj i (by simpa using ht4)
  · rw [← toArray_set]
    exact h.go hf _ w (he.put (d := some d) hd v) how

theorem DL1.stepF {i : Nat} (ho : ops[i]? = some ⟨some d, op, ty, pos, after, g⟩) (hg : Gd ops env g = some true) (hd : Nat.blt d C.n = true) (hfin : finB ops.toArray rd i = true)
    (hop : OpW C.P C.w0 ⟨some d, op, ty, pos, after, g⟩ env l R) (h : ∀ v l', R v l' → DL C ops rd cl fuel (listed.set i true) k ((d, v) :: env) l') : DL1 C ops rd cl fuel listed i k env l := by
  refine ⟨fun hf a w he how => ?_⟩
  have hi : ops.toArray[i]? = some ⟨some d, op, ty, pos, after, g⟩ := by simpa using ho
  unfold wpOp
  simp only [hi]
  rw [Gd.wanted (o := ⟨some d, op, ty, pos, after, g⟩) he hg, if_pos rfl]
  exact .inl (hop.run a (he.rds _) w how _ _ fun v w' l' hR ho' => ⟨.inl hfin, (h v l' hR).go hf _ w' (he.put (d := some d) hd v) ho'⟩)

theorem DL1.stepK {i : Nat} (ho : ops[i]? = some ⟨some d, op, ty, pos, after, g⟩) (hg : Gd ops env g = some true) (hd : Nat.blt d C.n = true) 
    (hop : OpW C.P C.w0 ⟨some d, op, ty, pos, after, g⟩ env l R) (hk : ∀ v l', R v l' → ∀ w, Own C.w0 w l' → Own C.w0 w cl) (h : ∀ v l', R v l' → DL C ops rd cl fuel (listed.set i true) k ((d, v) :: env) l') : DL1 C ops rd cl fuel listed i k env l := by
  refine ⟨fun hf a w he how => ?_⟩
  have hi : ops.toArray[i]? = some ⟨some d, op, ty, pos, after, g⟩ := by simpa using ho
  unfold wpOp
  simp only [hi]
  rw [Gd.wanted (o := ⟨some d, op, ty, pos, after, g⟩) he hg, if_pos rfl]
  exact .inl (hop.run a (he.rds _) w how _ _ fun v w' l' hR ho' => ⟨.inr fun _ => hk v l' hR w' ho', (h v l' hR).go hf _ w' (he.put (d := some d) hd v) ho'⟩)

theorem DL1.stepF0 {i : Nat} (ho : ops[i]? = some ⟨none, op, ty, pos, after, g⟩) (hg : Gd ops env g = some true) (hfin : finB ops.toArray rd i = true)
    (hop : OpW C.P C.w0 ⟨none, op, ty, pos, after, g⟩ env l R) (h : ∀ v l', R v l' → DL C ops rd cl fuel (listed.set i true) k env l') : DL1 C ops rd cl fuel listed i k env l := by
  refine ⟨fun hf a w he how => ?_⟩
  have hi : ops.toArray[i]? = some ⟨none, op, ty, pos, after, g⟩ := by simpa using ho
  unfold wpOp
  simp only [hi]
  rw [Gd.wanted (o := ⟨none, op, ty, pos, after, g⟩) he hg, if_pos rfl]
  exact .inl (hop.run a (he.rds _) w how _ _ fun v w' l' hR ho' => ⟨.inl hfin, (h v l' hR).go hf _ w' (he.put (d := none) rfl v) ho'⟩)

theorem DL1.skip {i : Nat} (ho : ops[i]? = some ⟨some d, op, ty, pos, after, g⟩) (hg : Gd ops env g = some false) (hd : Nat.blt d C.n = true) (h : DL C ops rd cl fuel (listed.set i true) k ((d, undef) :: env) l) : DL1 C ops rd cl fuel listed i k env l := by
  refine ⟨fun hf a w he how => ?_⟩
  have hi : ops.toArray[i]? = some ⟨some d, op, ty, pos, after, g⟩ := by simpa using ho
  unfold wpOp
  simp only [hi]
  rw [Gd.wanted (o := ⟨some d, op, ty, pos, after, g⟩) he hg, if_neg (by simp)]
  exact ⟨.inr fun h => h, h.go hf _ w (he.put (d := some d) hd _) how⟩

theorem DL.only {i : Nat} (hr : Region.ready .any ops.toArray listed.toArray = [i]) (h : DL1 C ops rd cl fuel listed i k env l) : DL C ops rd cl (fuel + 1) listed k env l := by
  refine ⟨fun hf a w he how => ⟨fun h0 => (by rw [hr] at h0; cases h0), fun j hj => ?_⟩⟩
  rw [hr] at hj
  simp at hj
  subst hj
  rw [← toArray_set]
  exact h.go hf a w he how

theorem DL.two {i j : Nat} (hr : Region.ready .any ops.toArray listed.toArray = [i, j]) (h1 : DL1 C ops rd cl fuel listed i k env l) (h2 : DL1 C ops rd cl fuel listed j k env l) : DL C ops rd cl (fuel + 1) listed k env l := by
  refine ⟨fun hf a w he how => ⟨fun h0 => (by rw [hr] at h0; cases h0), fun m hm => ?_⟩⟩
  rw [hr] at hm
  simp at hm
  rw [← toArray_set]
  rcases hm with rfl | rfl
  · exact h1.go hf a w he how
  · exact h2.go hf a w he how

theorem DL.dec {i : Nat} {p : Prop} [Decidable p] (hs : Region.noSelect ops.toArray = true) (ht : takeB ops.toArray listed.toArray i = true) (ho : ops[i]? = some ⟨some d, op, ty, pos, after, g⟩) (hg : Gd ops env g = some true) (hd : Nat.blt d C.n = true)
    (hop : OpP C.P ⟨some d, op, ty, pos, after, g⟩ env (.bool (decide p))) (h1 : p → DL C ops rd cl fuel (listed.set i true) k ((d, .bool true) :: env) l) (h2 : ¬ p → DL C ops rd cl fuel (listed.set i true) k ((d, .bool false) :: env) l) : DL C ops rd cl (fuel + 1) listed k env l := by
  by_cases hp : p
  · exact DL.pure hs ht ho hg hd (v := .bool true) (by simpa [hp] using hop) (h1 hp)
  · exact DL.pure hs ht ho hg hd (v := .bool false) (by simpa [hp] using hop) (h2 hp)
end

end Go.Gp

namespace Go.Gp
open Go Go.RowKit

/-! Lists of equal parts. -/
section
variable {α : Type} {f : α → List Value} {n : Nat}

theorem chunk_length : ∀ {l : List α}, (∀ a ∈ l, (f a).length = n) → (l.flatMap f).length = l.length * n
  | [], _ => by simp
  | a :: l, h => by
    have ih := chunk_length (l := l) (fun b hb => h b (.tail _ hb))
    simp [List.flatMap_cons, ih, h a (.head _), Nat.add_mul]; omega

theorem chunk_drop : ∀ {l : List α} {i : Nat}, (∀ a ∈ l, (f a).length = n) → (l.flatMap f).drop (i * n) = (l.drop i).flatMap f
  | [], i, _ => by simp
  | a :: l, 0, _ => by simp
  | a :: l, i + 1, h => by
    have ih := chunk_drop (l := l) (i := i) (fun b hb => h b (.tail _ hb))
    simp only [List.flatMap_cons, List.drop_succ_cons]
    rw [show (i + 1) * n = (f a).length + i * n from by rw [h a (.head _), Nat.add_mul]; omega, ← List.drop_drop, List.drop_left, ih]

theorem chunk_take : ∀ {l : List α} {i : Nat}, (∀ a ∈ l, (f a).length = n) → (l.flatMap f).take (i * n) = (l.take i).flatMap f
  | [], i, _ => by simp
  | a :: l, 0, _ => by simp
  | a :: l, i + 1, h => by
    have ih := chunk_take (l := l) (i := i) (fun b hb => h b (.tail _ hb))
    simp only [List.flatMap_cons, List.take_succ_cons]
    rw [show (i + 1) * n = (f a).length + i * n from by rw [h a (.head _), Nat.add_mul]; omega, List.take_length_add_append, ih]

theorem chunk_at {l : List α} {i : Nat} {a : α} (h : ∀ a ∈ l, (f a).length = n) (hi : l[i]? = some a) : ((l.flatMap f).drop (i * n)).take n = f a := by
  rw [chunk_drop h]
  obtain ⟨hlt, rfl⟩ := List.getElem?_eq_some_iff.1 hi
  rw [List.drop_eq_getElem_cons hlt, List.flatMap_cons]
  have := h _ (List.getElem_mem hlt)
  rw [← this, List.take_left]

theorem chunk_spl {l : List α} {i : Nat} {a : α} (h : ∀ a ∈ l, (f a).length = n) (ha : (f a).length = n) (hi : i < l.length) : Spl (l.flatMap f) (i * n) (f a) ((l.set i a).flatMap f) := by
  have h1 : i * n + (f a).length ≤ (l.flatMap f).length := by
    rw [chunk_length h, ha]
    calc i * n + n = (i + 1) * n := by rw [Nat.add_mul]; omega
      _ ≤ l.length * n := Nat.mul_le_mul_right _ (by omega)
  have h2 := Spl.mk (vs := f a) h1
  have e : (l.flatMap f).take (i * n) ++ f a ++ (l.flatMap f).drop (i * n + (f a).length) = (l.set i a).flatMap f := by
    rw [chunk_take h, ha, show i * n + n = (i + 1) * n from by rw [Nat.add_mul]; omega, chunk_drop h]
    rw [List.set_eq_take_append_cons_drop, if_pos hi]
    simp
  rw [e] at h2
  exact h2
end

theorem Cells.chunk {w0 : World} {L : List HProp} {α : Type} {f : α → List Value} {n g t i : Nat} {l : List α} {a : α} (hm : Has (row g t (l.flatMap f)) L) (h : ∀ a ∈ l, (f a).length = n) (hi : l[i]? = some a) : Cells w0 L g (i * n) (f a) :=
  Cells.sub n hm (chunk_at h hi)

theorem Cells.mid {w0 : World} {L : List HProp} {g t : Nat} {pre xs post : List Value} (hm : Has (row g t (pre ++ xs ++ post)) L) : Cells w0 L g pre.length xs :=
  Cells.sub xs.length hm (by simp)

theorem bcells_length (s : List UInt8) : (bcells s).length = s.length := by simp [bcells]
theorem bcells_one (s : List UInt8) : ∀ u ∈ bcells s, u.oneCell' = true := by
  intro u hu
  simp [bcells] at hu
  obtain ⟨b, _, rfl⟩ := hu
  rfl
theorem bcells_append (a b : List UInt8) : bcells (a ++ b) = bcells a ++ bcells b := by simp [bcells]
theorem bcells_get (s : List UInt8) (j : Nat) : (bcells s)[j]? = (s[j]?).map u8c := by simp [bcells]
theorem bcells_take (s : List UInt8) (j : Nat) : (bcells s).take j = bcells (s.take j) := by simp [bcells]
theorem bcells_drop (s : List UInt8) (j : Nat) : (bcells s).drop j = bcells (s.drop j) := by simp [bcells]

def strB (s : List UInt8) : ByteArray := ⟨s.toArray⟩
theorem strB_inj {a b : List UInt8} : strB a = strB b ↔ a = b := by
  simp [strB]
theorem strB_size (s : List UInt8) : (strB s).size = s.length := by simp [strB, ByteArray.size]
section
variable {P : Program} {w0 : World} {env : Env} {l l' : List HProp} {dst : Option Tmp} {ty : TypeId} {pos : String} {after : Array Edge} {g : Option (Nat × Bool)}

theorem OpP.eqSlNil {x y : Operand} {t u e sz by_ : Nat} {a : Option Addr} {n c n' c' : Nat} [ht : Sl P t e sz by_] (hx : ev env x = some (.slice a n c)) (hy : ev env y = some (.slice none n' c')) : OpP P ⟨dst, .binOp .eql t x y u, ty, pos, after, g⟩ env (.bool a.isNone) :=
  OpP.eqGen hx hy rfl fun w => by
    simp only [binOp]
    simp [Op.equal, Op.maxDepth, Lib.run_equalIn_slice_nil w 9999 t e a n c n' c' ht.und]
theorem OpP.neSlNil {x y : Operand} {t u e sz by_ : Nat} {a : Option Addr} {n c n' c' : Nat} [ht : Sl P t e sz by_] (hx : ev env x = some (.slice a n c)) (hy : ev env y = some (.slice none n' c')) : OpP P ⟨dst, .binOp .neq t x y u, ty, pos, after, g⟩ env (.bool (!a.isNone)) :=
  OpP.eqGen hx hy rfl fun w => by
    simp only [binOp]
    simp [Op.equal, Op.maxDepth, Lib.run_equalIn_slice_nil w 9999 t e a n c n' c' ht.und]

theorem foldl_push (s : List UInt8) : ∀ r : ByteArray, (s.map (fun b => ((b.toNat : Int)))).foldl (fun r n => r.push (UInt8.ofNat n.toNat)) r = ⟨r.data ++ s.toArray⟩ := by
  induction s with
  | nil => intro r; cases r; simp
  | cons b s ih =>
    intro r
    simp only [List.map_cons, List.foldl_cons]
    rw [ih]
    cases r
    simp [ByteArray.push]

theorem OpR.bytesToStr {x : Operand} {s d e : TypeId} {sz by_ b o cap : Nat} {bs : List UInt8} {len : Nat} [hs : Sl P s e sz by_] [he : IntT P e .u8] [hd : StrT P d] (hx : ev env x = some (.slice (some ⟨b, o, none⟩) len cap)) (hc : Cells w0 l b o (bcells bs)) (hl : len = bs.length) :
    OpR P w0 ⟨dst, .convert s d x, ty, pos, after, g⟩ env l (.string (strB bs)) := by
  refine ⟨fun ρ hr w ho => ?_⟩
  have hx' := hr x (by simp [Op.operands]) _ hx
  have hl1 := run_loadCells_list (P := P) w ⟨b, o, none⟩ (bcells bs) (fun j v hv => by rw [addr_add]; exact hc w ho j v hv)
  rw [bcells_length] at hl1
  subst hl
  have e1 : bcells bs = (bs.map (fun b => ((b.toNat : Int)))).map (Value.int .u8) := by simp [bcells, u8c]
  have := run_bytesToString (P := P) w ⟨b, o, none⟩ bs.length cap (bs.map (fun b => ((b.toNat : Int)))) (by rw [hl1, e1])
  rw [foldl_push] at this
  have e2 : (ByteArray.mk (ByteArray.empty.data ++ bs.toArray)) = strB bs := by rw [show ByteArray.empty.data = #[] from rfl]; simp [strB]
  rw [e2] at this
  simp only [execOp, hx', Sem.run_bind, run_convert_bytes_string w s d e _ _ _ hs.und he.h hd.h, this, Result.andThen_ok, Sem.run_pure]

theorem OpR.nilToStr {x : Operand} {s d e : TypeId} {sz by_ n c : Nat} [hs : Sl P s e sz by_] [he : IntT P e .u8] [hd : StrT P d] (hx : ev env x = some (.slice none n c)) :
    OpP P ⟨dst, .convert s d x, ty, pos, after, g⟩ env (.string (strB [])) := by
  refine ⟨fun ρ hr w => ?_⟩
  have hx' := hr x (by simp [Op.operands]) _ hx
  have e2 : ByteArray.empty = strB [] := rfl
  simp only [execOp, hx', Sem.run_bind, run_convert_bytes_nil w s e hs.und he.h n c d hd.h, Result.andThen_ok, Sem.run_pure, e2]

/-- copy between two rows: all of the shorter one. -/
theorem OpM.copy {x y : Operand} {tys : Array TypeId} {t u e sz by_ b o len cap : Nat} {xv : Value} {m : Nat} {cs cs' news : List Value} [hs : Sl P t e sz by_] (htys : tys = #[t, u]) (hx : ev env x = some (.slice (some ⟨b, o, none⟩) len cap)) (hy : ev env y = some xv)
    (hlen : ∀ w, (Builtin.lenOf xv).run P w = .ok m w) (hfirst : ∀ w, Own w0 w l → (Builtin.firstCells sz (Nat.min m len) xv).run P w = .ok news.toArray w) (h1 : ∀ c ∈ news, c.oneCell' = true)
    (hspl : Spl cs o news cs') (hu : Upd (row b e cs) (row b e cs') l l') :
    OpM P w0 ⟨dst, .call ⟨.builtin .copy, #[x, y], tys⟩, ty, pos, after, g⟩ env l (fun r l'' => r = .int .i64 (Nat.min m len) ∧ l'' = l') := by
  subst htys
  refine ⟨fun ρ hr w ho => ?_⟩
  have hx' := hr x (by simp [Op.operands, Call.operands]) _ hx
  have hy' := hr y (by simp [Op.operands, Call.operands]) _ hy
  obtain ⟨i, hi1, hi2, _, _⟩ := hs.inf
  obtain ⟨hheap, _⟩ := ho.blk_heap hu.mem
  obtain ⟨hle, hcs⟩ := hspl.eq
  have hst := run_storeCells_at P b o e news 0 cs.toArray w hheap (by simpa using hle) h1
  simp only [Nat.add_zero] at hst
  rw [← hcs] at hst
  refine ⟨_, .int .i64 (Nat.min m len), w.setRow b cs'.toArray, l', ?_, .inl rfl, ⟨rfl, rfl⟩, Own.setRow hu ho⟩
  simp [execOp, resolve, hx', hy', invoke, builtin, Builtin.copy_, run_underlying hs.und, hlen, run_sizeOf_info w hi1, hi2, hfirst w ho, hst, goInt]
end

theorem Src.own {P : Program} {w0 : World} {l : List HProp} {e sz n : Nat} {v : Value} {xs : List Value} (hm : Has (Gp.own e sz v n xs) l) (hl : xs.length = n * sz) : Src P w0 l sz v n xs := by
  refine ⟨hl, fun w ho => ?_, fun w ho => ?_⟩
  · obtain ⟨m, hp⟩ := Own.mem_front hm.mem
    rcases (ho.perm hp).own_out with ⟨rfl, rfl, rfl⟩ | ⟨_, _, _, _, rfl, _⟩ <;> simp [Builtin.lenOf]
  · obtain ⟨m, hp⟩ := Own.mem_front hm.mem
    rcases (ho.perm hp).own_out with ⟨rfl, rfl, rfl⟩ | ⟨g, pre, post, cap, rfl, _, _, _, _, ho'⟩
    · simp [Builtin.firstCells]
    · exact run_firstCells_some w sz n ⟨g, pre.length, none⟩ n cap xs hl (fun j v hv => by rw [addr_add]; exact Cells.mid (w0 := w0) .head w ho' j v hv)

/-- A list of resources as one. -/
def hall : List HProp → HProp
  | [] => emp
  | A :: l => star A (hall l)

theorem Sat.hall_out {w : World} {F : List HProp} : ∀ {ls : List HProp} {S : Nat → Prop}, Sat w (hall ls :: F) S → Sat w (ls ++ F) S
  | [], _, h => h.tail
  | _ :: _, _, h => (Sat.star_out h).cons_mono fun _ => Sat.hall_out

theorem Sat.hall_in {w : World} {F : List HProp} : ∀ {ls : List HProp} {S : Nat → Prop}, Sat w (ls ++ F) S → Sat w (hall ls :: F) S
  | [], _, h => h.emp_in
  | _ :: _, _, h => Sat.star_in (Sat.cons_mono (fun _ => Sat.hall_in) h)

theorem Own.hall_out {w0 w : World} {ls F : List HProp} (h : Own w0 w (hall ls :: F)) : Own w0 w (ls ++ F) := ⟨h.below, h.sat.hall_out⟩
theorem Own.hall_in {w0 w : World} {ls F : List HProp} (h : Own w0 w (ls ++ F)) : Own w0 w (hall ls :: F) := ⟨h.below, h.sat.hall_in⟩

/-- Some of the resources, in another order. -/
theorem Sat.fam {w : World} : ∀ {l : List HProp} {S : Nat → Prop}, Sat w l S → ∃ hs : Nat → Hp, (∀ i A, l[i]? = some A → A (hs i) ∧ ∀ k o, hs i k = some o → S k ∧ w.heap[k]? = some o) ∧
    (∀ i j, i < l.length → j < l.length → i ≠ j → ∀ k, hs i k = none ∨ hs j k = none)
  | [], _, _ => ⟨fun _ _ => none, fun _ _ h => by simp at h, fun _ _ h => by simp at h⟩
  | B :: l, S, ⟨h, hB, hh, hl⟩ => by
    obtain ⟨hs, h1, h2⟩ := Sat.fam hl
    refine ⟨fun i => match i with | 0 => h | i + 1 => hs i, fun i A hi => ?_, fun i j hi hj hne k => ?_⟩
    · cases i with
      | zero => simp at hi; subst hi; exact ⟨hB, hh⟩
      | succ i => obtain ⟨a, b⟩ := h1 i A (by simpa using hi); exact ⟨a, fun k o e => ⟨(b k o e).1.1, (b k o e).2⟩⟩
    · have key : ∀ i, i < l.length → ∀ k, h k = none ∨ hs i k = none := fun i hi k => by
        cases e : hs i k with
        | none => exact .inr rfl
        | some o => exact .inl ((h1 i _ (List.getElem?_eq_getElem hi)).2 k o e).1.2
      cases i with
      | zero => cases j with
        | zero => exact absurd rfl hne
        | succ j => exact key j (by simpa using hj) k
      | succ i => cases j with
        | zero => exact (key i (by simpa using hi) k).symm
        | succ j => exact h2 i j (by simpa using hi) (by simpa using hj) (fun e => hne (by rw [e])) k

theorem Sat.of_fam {w : World} {l : List HProp} {hs : Nat → Hp} (h1 : ∀ i A, l[i]? = some A → A (hs i) ∧ ∀ k o, hs i k = some o → w.heap[k]? = some o)
    (h2 : ∀ i j, i < l.length → j < l.length → i ≠ j → ∀ k, hs i k = none ∨ hs j k = none) : ∀ (is : List Nat) (S : Nat → Prop), is.Nodup → (∀ i ∈ is, i < l.length → ∀ k o, hs i k = some o → S k) → Sat w (is.filterMap (fun i => l[i]?)) S
  | [], _, _, _ => trivial
  | i :: is, S, hd, hS => by
    have hd' := List.nodup_cons.1 hd
    cases e : l[i]? with
    | none => rw [List.filterMap_cons_none e]; exact Sat.of_fam h1 h2 is S hd'.2 (fun j hj => hS j (.tail _ hj))
    | some A =>
      rw [List.filterMap_cons_some e]
      have hi : i < l.length := (List.getElem?_eq_some_iff.1 e).1
      refine ⟨hs i, (h1 i A e).1, fun k o ek => ⟨hS i (.head _) hi k o ek, (h1 i A e).2 k o ek⟩, Sat.of_fam h1 h2 is _ hd'.2 (fun j hj hjl k o ek => ⟨hS j (.tail _ hj) hjl k o ek, ?_⟩)⟩
      have hne : i ≠ j := fun e' => hd'.1 (e' ▸ hj)
      rcases h2 i j hi hjl hne k with h | h
      · exact h
      · rw [ek] at h; cases h

theorem Sat.pick0 {w : World} {l : List HProp} {S : Nat → Prop} (is : List Nat) (hd : is.Nodup) (h : Sat w l S) : Sat w (is.filterMap (fun i => l[i]?)) S := by
  obtain ⟨hs, h1, h2⟩ := Sat.fam h
  refine Sat.of_fam (fun i A hi => ⟨(h1 i A hi).1, fun k o e => ((h1 i A hi).2 k o e).2⟩) h2 is S hd (fun i _ hi k o e => ?_)
  exact ((h1 i _ (List.getElem?_eq_getElem hi)).2 k o e).1

theorem filterMap_same {α β : Type _} {f g : α → Option β} : ∀ {l : List α}, (∀ a ∈ l, f a = g a) → l.filterMap f = l.filterMap g
  | [], _ => rfl
  | a :: l, h => by
    have ih := filterMap_same (l := l) (fun b hb => h b (.tail _ hb))
    simp only [List.filterMap_cons, h a (.head _), ih]

def nodupB : List Nat → Bool
  | [] => true
  | i :: is => is.all (fun j => !Nat.beq i j) && nodupB is

theorem nodupB_spec : ∀ {is : List Nat}, nodupB is = true → is.Nodup
  | [], _ => List.nodup_nil
  | i :: is, h => by
    simp only [nodupB, Bool.and_eq_true, List.all_eq_true] at h
    refine List.nodup_cons.2 ⟨fun hi => ?_, nodupB_spec h.2⟩
    have := h.1 i hi
    simp at this

def pickB (n : Nat) (is : List Nat) : Bool := nodupB is && is.all fun i => Nat.blt i n

theorem Own.pick {w0 w : World} {pre F : List HProp} (is : List Nat) (hd : pickB pre.length is = true) (h : Own w0 w (pre ++ F)) : Own w0 w (is.filterMap (fun i => pre[i]?) ++ F) := by
  simp only [pickB, Bool.and_eq_true, List.all_eq_true, Nat.blt_eq] at hd
  obtain ⟨hnd, hlt⟩ := hd
  have hnd := nodupB_spec hnd
  have h1 : Own w0 w (hall F :: pre) := Own.hall_in (h.perm List.perm_append_comm)
  have h2 : Own w0 w (pre ++ [hall F]) := h1.perm (List.perm_append_comm (l₁ := [hall F]))
  have h3 : Own w0 w ((is ++ [pre.length]).filterMap (fun i => (pre ++ [hall F])[i]?)) := ⟨h2.below, h2.sat.pick0 _ (by
    rw [List.nodup_append]
    refine ⟨hnd, by simp, ?_⟩
    intro a ha b hb
    simp at hb
    have := hlt a ha
    omega)⟩
  have e : (is ++ [pre.length]).filterMap (fun i => (pre ++ [hall F])[i]?) = is.filterMap (fun i => pre[i]?) ++ [hall F] := by
    rw [List.filterMap_append]
    congr 1
    · exact filterMap_same fun i hi => List.getElem?_append_left (hlt i hi)
    · simp
  rw [e] at h3
  have h4 : Own w0 w (hall F :: is.filterMap (fun i => pre[i]?)) := h3.perm List.perm_append_comm
  exact h4.hall_out.perm List.perm_append_comm

theorem J.pick {C : Cx} {k : List Item} {env : Env} {pre F : List HProp} (is : List Nat) (hd : pickB pre.length is = true) (h : J C k env (is.filterMap (fun i => pre[i]?) ++ F)) : J C k env (pre ++ F) :=
  J.conv (fun _ ho => ho.pick is hd) h

/-- A slice that reads as these cells. -/
def Rd (w0 : World) (l : List HProp) (v : Value) (n : Nat) (cs : List Value) : Prop :=
  (∃ a c, v = .slice a 0 c ∧ n = 0 ∧ cs = []) ∨ ∃ b o cap, v = .slice (some ⟨b, o, none⟩) n cap ∧ n ≤ cap ∧ Cells w0 l b o cs

theorem Rd.conv {w0 : World} {l l' : List HProp} {v : Value} {n : Nat} {cs : List Value} (hl : ∀ w, Own w0 w l' → Own w0 w l) (h : Rd w0 l v n cs) : Rd w0 l' v n cs := by
  rcases h with h | ⟨b, o, cap, h1, h2, h3⟩
  · exact .inl h
  · exact .inr ⟨b, o, cap, h1, h2, h3.conv hl⟩

theorem Rd.lit {w0 : World} {l : List HProp} {v : Value} {n : Nat} {cs : List Value} (h : Rd w0 l v n cs) : ∃ a cap, v = .slice a n cap := by
  rcases h with ⟨a, c, rfl, rfl, _⟩ | ⟨b, o, cap, rfl, _⟩
  · exact ⟨_, _, rfl⟩
  · exact ⟨_, _, rfl⟩

theorem Rd.pos {w0 : World} {l : List HProp} {v : Value} {n : Nat} {cs : List Value} (h : Rd w0 l v n cs) (hn : 0 < n) : ∃ b o cap, v = .slice (some ⟨b, o, none⟩) n cap ∧ n ≤ cap ∧ Cells w0 l b o cs := by
  rcases h with ⟨a, c, _, rfl, _⟩ | h
  · omega
  · exact h

theorem Rd.src {P : Program} {w0 : World} {l : List HProp} {v : Value} {n sz : Nat} {cs : List Value} (h : Rd w0 l v n cs) (hl : cs.length = n * sz) : Src P w0 l sz v n cs := by
  rcases h with ⟨a, c, rfl, rfl, rfl⟩ | ⟨b, o, cap, rfl, _, hc⟩
  · exact Src.nil
  · exact Src.slice hc hl

/-- What an owned slice reads as. -/
theorem Own.own_form {w0 w : World} {l : List HProp} {e sz n : Nat} {v : Value} {xs : List Value} (hn : 0 < n) (h : Own w0 w (own e sz v n xs :: l)) :
    ∃ g pre post cap, v = .slice (some ⟨g, pre.length, none⟩) n cap ∧ n ≤ cap ∧ cap ≤ maxLen ∧ xs.length = n * sz ∧ (cap - n) * sz ≤ post.length ∧ Own w0 w (row g e (pre ++ xs ++ post) :: l) := by
  rcases h.own_out with ⟨_, rfl, _⟩ | h
  · omega
  · exact h

end Go.Gp

namespace Go.Gp
open Go
variable {w0 : World} {l : List HProp}

theorem SubEnv.nil {env : Env} : SubEnv [] env := True.intro
theorem SubEnv.cons {e env : Env} {t : Tmp} {v : Value} (h : Env.get env t = some v) (hs : SubEnv e env) : SubEnv ((t, v) :: e) env := ⟨h, hs⟩

theorem spl_all {a b : List Value} (h : b.length = a.length) : Spl a 0 b b := by
  have := Spl.mk (cs := a) (vs := b) (o := 0) (by omega)
  have e : List.take 0 a ++ b ++ List.drop (0 + b.length) a = b := by simp [h]
  rw [e] at this
  exact this

theorem spl_one {xs : List Value} {i : Nat} {v : Value} (h : i < xs.length) : Spl xs i [v] (xs.set i v) := by
  have := Spl.mk (cs := xs) (vs := [v]) (o := i) (by simp; omega)
  have e : List.take i xs ++ [v] ++ List.drop (i + [v].length) xs = xs.set i v := by
    rw [List.set_eq_take_append_cons_drop, if_pos h]; simp
  rw [e] at this
  exact this

theorem spl_at {xs : List Value} {o i : Nat} {v : Value} (ho : o = i) (h : i < xs.length) : Spl xs o [v] (xs.set i v) := by subst ho; exact spl_one h

theorem Cell.mid {g t o j : Nat} {pre xs post : List Value} {v : Value} (hm : Has (Gp.row g t (pre ++ xs ++ post)) l) (ho : o = pre.length + j) (hx : xs[j]? = some v) : Cell w0 l ⟨g, o, none⟩ v := by
  subst ho
  refine Cell.row hm ?_
  have := (List.getElem?_eq_some_iff.1 hx).1
  rw [List.append_assoc, List.getElem?_append_right (by omega), Nat.add_sub_cancel_left, List.getElem?_append_left this]
  exact hx

theorem Cells.cell {l' : List HProp} {b o o' j : Nat} {vs : List Value} {v : Value} (h : Cells w0 l b o vs) (hl : ∀ w, Own w0 w l' → Own w0 w l) (ho : o' = o + j) (hv : vs[j]? = some v) : Cell w0 l' ⟨b, o', none⟩ v := by
  subst ho
  exact (h.conv hl).at j hv

/-- A loop, by what holds at its head. -/
theorem J.loopI {C : Cx} {c : Code} {k : List Item} {env : Env} {σ : Type} (μ : σ → Nat) (I : σ → Prop) (E : σ → Env) (L : σ → List HProp) (s0 : σ) (h0 : I s0) (he : SubEnv (E s0) env) (hl : ∀ w, Own C.w0 w l → Own C.w0 w (L s0))
    (body : ∀ s, I s → (∀ s', I s' → μ s' < μ s → ∀ {env' l'}, SubEnv (E s') env' → (∀ w, Own C.w0 w l' → Own C.w0 w (L s')) → J C (.inLoop c :: k) env' l') → J C (.code c :: .inLoop c :: k) (E s) (L s)) :
    J C (.code (.loop c) :: k) env l :=
  J.loop (J.sub he (J.conv hl (J.ind μ I E L (fun s hs back => body s hs fun s' hs' hlt _ _ he' hl' => J.sub he' (J.conv hl' (back s' hs' hlt))) (fun _ h => J.inLoop h) s0 h0)))

theorem JL.pick {C : Cx} {ops rest : List Oper} {k : List Item} {env : Env} {pre F : List HProp} (is : List Nat) (hd : pickB pre.length is = true) (h : JL C ops rest k env (is.filterMap (fun i => pre[i]?) ++ F)) : JL C ops rest k env (pre ++ F) :=
  JL.conv (fun _ ho => ho.pick is hd) h

theorem Rd.ofRow {b e n c : Nat} {cs : List Value} (hm : Has (row b e cs) l) (hc : n ≤ c) : Rd w0 l (.slice (some ⟨b, 0, none⟩) n c) n cs := .inr ⟨b, 0, c, rfl, hc, Cells.full hm⟩

end Go.Gp

namespace Go.Gp
open Go Go.RowKit

/-- A contract, as a call that begins with nothing owned. -/
theorem FnO.law {P : Program} {f : FuncId} {args : List Value} {l : List HProp} {v : Value} {w : World} (h : FnO P w f args l (fun u _ => u = v)) (hl : Own w w l) :
    Calls P f args.toArray w fun e w' => e = .returned v ∧ Below w.heap.size w w' :=
  (h.calls w hl).mono fun _ _ ⟨_, _, he, hR, ho⟩ => ⟨by rw [he, hR], ho.below⟩

theorem u8_of_wf {n : Int} (h : (Lit.int .u8 n).wf = true) : ∃ c : UInt8, Value.int .u8 n = u8c c := by
  simp [Lit.wf, IntKind.min, IntKind.max, IntKind.signed, IntKind.bits] at h
  refine ⟨UInt8.ofNat n.toNat, ?_⟩
  have : (UInt8.ofNat n.toNat).toNat = n.toNat := by rw [UInt8.toNat_ofNat']; omega
  simp only [u8c, this]
  congr 1
  omega
end Go.Gp

namespace Go.Gp
open Go Go.RowKit

/-- Cells of a type that may be read from outside, whole. -/
def Fm (P : Program) (w : World) (t : TypeId) (cs : List Value) : Prop :=
  ∃ (H : Type) (enc : TypeId × Value → H) (base : Nat) (spare : Nat → Bool) (held : Bool) (fuel : Nat) (x : DataW H × List MemPlace), DataW.trod enc P w base spare held fuel t cs = some x

theorem Fm.of {P : Program} {w : World} {t : TypeId} {v : Value} {H : Type} {enc : TypeId × Value → H} {base : Nat} {spare : Nat → Bool} {held : Bool} {d : DataW H} {ps : List MemPlace}
    (h : DataW.Trod enc P w base spare held t v d ps) : Fm P w t v.cells.toList := by
  obtain ⟨fuel, h⟩ := h
  exact ⟨H, enc, base, spare, held, fuel, _, h⟩

variable {P : Program} {w : World} {t : TypeId} {cs : List Value}

theorem Fm.int {k : IntKind} (ht : P.underlying t = some (.int k)) (h : Fm P w t cs) : ∃ n, cs = [.int k n] ∧ (Lit.int k n).wf = true := by
  obtain ⟨H, enc, base, spare, held, fuel, x, h⟩ := h
  cases fuel with
  | zero => simp [DataW.trod] at h
  | succ m =>
    unfold DataW.trod at h
    rw [ht] at h
    split at h <;> simp_all

theorem Fm.bool (ht : P.underlying t = some .bool) (h : Fm P w t cs) : ∃ b, cs = [.bool b] := by
  obtain ⟨H, enc, base, spare, held, fuel, x, h⟩ := h
  cases fuel with
  | zero => simp [DataW.trod] at h
  | succ m =>
    unfold DataW.trod at h
    rw [ht] at h
    split at h <;> simp_all

theorem Fm.str (ht : P.underlying t = some .string) (h : Fm P w t cs) : ∃ s, cs = [.string s] ∧ s.size ≤ maxLen := by
  obtain ⟨H, enc, base, spare, held, fuel, x, h⟩ := h
  cases fuel with
  | zero => simp [DataW.trod] at h
  | succ m =>
    unfold DataW.trod at h
    rw [ht] at h
    split at h <;> simp_all

theorem Fm.struct {fs : Array Field} (ht : P.underlying t = some (.struct fs)) (h : Fm P w t cs) :
    cs.length = P.cellsOf t ∧ ∀ (i : Nat) f, fs.toList[i]? = some f → Fm P w f.type ((cs.drop f.offset).take (P.cellsOf f.type)) := by
  obtain ⟨H, enc, base, spare, held, fuel, x, h⟩ := h
  obtain ⟨xs, n, _, _, hl, hlen, hf⟩ := DataW.trod_struct ht h
  refine ⟨hl, fun i f hi => ?_⟩
  have h1 := (List.getElem?_eq_some_iff.1 hi).1
  have h2 := hf i f (by simpa using hi)
  rw [List.getElem?_eq_getElem (by simp at h1; omega)] at h2
  exact ⟨H, enc, base, spare, held, n, _, h2⟩

theorem Fm.array {n : Nat} {e : TypeId} (ht : P.underlying t = some (.array n e)) (h : Fm P w t cs) :
    cs.length = P.cellsOf t ∧ ∀ i, i < n → Fm P w e ((cs.drop (i * P.cellsOf e)).take (P.cellsOf e)) := by
  obtain ⟨H, enc, base, spare, held, fuel, x, h⟩ := h
  obtain ⟨xs, m, _, _, hl, hlen, hf⟩ := DataW.trod_array ht h
  refine ⟨hl, fun i hi => ?_⟩
  have h2 := hf i hi
  rw [List.getElem?_eq_getElem (by omega)] at h2
  exact ⟨H, enc, base, spare, held, m, _, h2⟩

theorem Fm.slice {e : TypeId} (ht : P.underlying t = some (.slice e)) (h : Fm P w t cs) :
    cs = [.slice none 0 0] ∨ ∃ (a : Addr) (len cap : Nat), cs = [.slice (some a) len cap] ∧ len ≤ cap ∧ cap ≤ maxLen ∧
      ∀ i, i < len → ∃ cs', cs'.length = P.cellsOf e ∧ (0 < P.cellsOf e → a.spot = none) ∧ (∀ j v, cs'[j]? = some v → w.cell? ⟨a.block, a.off + (i * P.cellsOf e + j), none⟩ = some v) ∧ Fm P w e cs' := by
  obtain ⟨H, enc, base, spare, held, fuel, x, h⟩ := h
  rcases Go.Deep.open_slice ht h with ⟨h0, _⟩ | ⟨a, len, cap, m, n, D, Pl, rfl, hb, hl, hm, hmm, rfl, hx⟩
  · exact .inl h0
  right
  refine ⟨a, len, cap, rfl, hl, hm, fun i hi => ?_⟩
  obtain ⟨cs', h1, h2⟩ := hx i (by rw [hmm]; split <;> omega)
  obtain ⟨_, hlen, hcell⟩ := World.cells?_some h1
  have hsp : 0 < P.cellsOf e → a.spot = none := by
    intro hp
    obtain ⟨cs0, g1, g2⟩ := hx 0 (by rw [hmm]; split <;> omega)
    obtain ⟨_, glen, gcell⟩ := World.cells?_some g1
    have h0 := gcell 0 hp
    have e0 : (a.add (0 * P.cellsOf e)).add 0 = a := by simp [Addr.add]
    rw [e0, List.getElem?_eq_getElem (by omega)] at h0
    exact World.cell?_spot h0
  refine ⟨cs', hlen, hsp, fun j v hv => ?_, H, enc, base, spare, held, n, _, h2⟩
  have hj := (List.getElem?_eq_some_iff.1 hv).1
  have h3 := hcell j (by omega)
  rw [hv, Addr.add_add] at h3
  have := hsp (by omega)
  obtain ⟨b, off, spot⟩ := a
  simp at this; subst this
  rw [show (⟨b, off, none⟩ : Addr).add (i * P.cellsOf e + j) = ⟨b, off + (i * P.cellsOf e + j), none⟩ from addr_add _ _ _] at h3
  exact h3

/-- A slice from outside, by what its elements are. -/
theorem Fm.rows {e : TypeId} {α : Type} {f : α → List Value} {Q : α → Prop} {sz : Nat} {v : Value} (ht : P.underlying t = some (.slice e)) (hsz : P.cellsOf e = sz) (hp : 0 < sz) (h : Fm P w t [v])
    (hel : ∀ cs, cs.length = sz → Fm P w e cs → ∃ x, Q x ∧ cs = f x) :
    ∃ xs : List α, (∀ x ∈ xs, Q x ∧ (f x).length = sz) ∧ xs.length ≤ maxLen ∧ ∀ l, Rd w l v xs.length (xs.flatMap f) := by
  rcases h.slice ht with h0 | ⟨a, len, cap, h0, h1, h2, h3⟩
  · simp at h0; subst h0
    exact ⟨[], by simp, by simp, fun l => .inl ⟨_, _, rfl, rfl, rfl⟩⟩
  simp at h0; subst h0
  have key : ∀ n, n ≤ len → ∃ xs : List α, xs.length = n ∧ (∀ x ∈ xs, Q x ∧ (f x).length = sz) ∧ ∀ j v, (xs.flatMap f)[j]? = some v → w.cell? ⟨a.block, a.off + j, none⟩ = some v := by
    intro n
    induction n with
    | zero => exact fun _ => ⟨[], rfl, by simp, by simp⟩
    | succ n ih =>
      intro hn
      obtain ⟨xs, hl, hq, hc⟩ := ih (by omega)
      obtain ⟨cs', g1, g2, g3, g4⟩ := h3 n (by omega)
      obtain ⟨x, hx, rfl⟩ := hel cs' (by omega) g4
      refine ⟨xs ++ [x], by simp [hl], ?_, ?_⟩
      · intro y hy
        rcases List.mem_append.1 hy with hy | hy
        · exact hq y hy
        · simp at hy; subst hy; exact ⟨hx, by omega⟩
      · intro j v hv
        have hxl : (xs.flatMap f).length = n * sz := by rw [chunk_length (fun y hy => (hq y hy).2), hl]
        rw [List.flatMap_append, List.flatMap_cons, List.flatMap_nil, List.append_nil] at hv
        by_cases hj : j < n * sz
        · rw [List.getElem?_append_left (by omega)] at hv
          exact hc j v hv
        · rw [List.getElem?_append_right (by omega), hxl] at hv
          have := g3 _ _ hv
          rw [hsz, show n * sz + (j - n * sz) = j by omega] at this
          exact this
  obtain ⟨xs, hl, hq, hc⟩ := key len (Nat.le_refl _)
  refine ⟨xs, hq, by omega, fun l => ?_⟩
  rw [hl]
  cases xs with
  | nil => simp at hl; subst hl; exact .inl ⟨_, _, rfl, rfl, rfl⟩
  | cons x xs =>
    have : a.spot = none := by
      obtain ⟨_, _, g, _⟩ := h3 0 (by simp at hl; omega)
      exact g (by omega)
    obtain ⟨b, off, spot⟩ := a
    simp at this; subst this
    exact .inr ⟨b, off, cap, rfl, h1, Cells.base hc⟩
end Go.Gp
