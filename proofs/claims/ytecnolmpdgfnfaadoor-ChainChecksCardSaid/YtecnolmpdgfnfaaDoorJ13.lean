/- A text of the proof of a statement about the given program: its part J13. No person has read it. -/
import Derived.Test.YtecnolmpdgfnfaaDoorJ12
namespace Go.Gp
open Go Go.RowKit
section
variable {C : Cx} {ops : List Oper} {rd : List Nat} {cl : List HProp} {fuel : Nat} {listed : List Bool} {k : List Item} {env : Env} {l l' : List HProp} {i : Nat}

theorem DL.conv (hl : ∀ w, Own C.w0 w l → Own C.w0 w l') (h : DL C ops rd cl fuel listed k env l') : DL C ops rd cl fuel listed k env l := ⟨fun hf a w he ho => h.go hf a w he (hl w ho)⟩
theorem DL1.conv (hl : ∀ w, Own C.w0 w l → Own C.w0 w l') (h : DL1 C ops rd cl fuel listed i k env l') : DL1 C ops rd cl fuel listed i k env l := ⟨fun hf a w he ho => h.go hf a w he (hl w ho)⟩
theorem DL1.pick {pre F : List HProp} (is : List Nat) (hd : pickB pre.length is = true) (h : DL1 C ops rd cl fuel listed i k env (is.filterMap (fun i => pre[i]?) ++ F)) : DL1 C ops rd cl fuel listed i k env (pre ++ F) :=
  DL1.conv (fun _ ho => ho.pick is hd) h
theorem DL.open {α : Sort _} {p : α → Prop} {l' : α → List HProp} (hl : ∀ w, Own C.w0 w l → ∃ x, p x ∧ Own C.w0 w (l' x)) (h : ∀ x, p x → DL C ops rd cl fuel listed k env (l' x)) : DL C ops rd cl fuel listed k env l :=
  ⟨fun hf a w he ho => let ⟨x, hp, hx⟩ := hl w ho; (h x hp).go hf a w he hx⟩
theorem DL.decT {d : Tmp} {op : Op} {ty : TypeId} {pos : String} {after : Array Edge} {g : Option (Nat × Bool)} {p : Prop} [Decidable p] (hs : Region.noSelect ops.toArray = true) (ht : takeB ops.toArray listed.toArray i = true) (ho : ops[i]? = some ⟨some d, op, ty, pos, after, g⟩) (hg : Gd ops env g = some true) (hd : Nat.blt d C.n = true)
    (hop : OpP C.P ⟨some d, op, ty, pos, after, g⟩ env (.bool (decide p))) (hp : p) (h : DL C ops rd cl fuel (listed.set i true) k ((d, .bool true) :: env) l) : DL C ops rd cl (fuel + 1) listed k env l :=
  DL.pure hs ht ho hg hd (v := .bool true) (by simpa [hp] using hop) h
theorem DL.decF {d : Tmp} {op : Op} {ty : TypeId} {pos : String} {after : Array Edge} {g : Option (Nat × Bool)} {p : Prop} [Decidable p] (hs : Region.noSelect ops.toArray = true) (ht : takeB ops.toArray listed.toArray i = true) (ho : ops[i]? = some ⟨some d, op, ty, pos, after, g⟩) (hg : Gd ops env g = some true) (hd : Nat.blt d C.n = true)
    (hop : OpP C.P ⟨some d, op, ty, pos, after, g⟩ env (.bool (decide p))) (hp : ¬ p) (h : DL C ops rd cl fuel (listed.set i true) k ((d, .bool false) :: env) l) : DL C ops rd cl (fuel + 1) listed k env l :=
  DL.pure hs ht ho hg hd (v := .bool false) (by simpa [hp] using hop) h
end

/-- What holds between an item and those behind it. -/
theorem J.cut {C : Cx} {x : Item} {k : List Item} {env : Env} {l : List HProp} {σ : Type} (I : σ → Prop) (E : σ → Env) (L : σ → List HProp) (rest : ∀ s, I s → J C k (E s) (L s))
    (first : ∀ k', (∀ s, I s → ∀ {env' l'}, SubEnv (E s) env' → (∀ w, Own C.w0 w l' → Own C.w0 w (L s)) → J C k' env' l') → J C (x :: k') env l) : J C (x :: k) env l :=
  first k fun s hs _ _ he hl => J.sub he (J.conv hl (rest s hs))

variable {w0 : World} {l : List HProp}
theorem Cells.chunkAt {α : Type} {f : α → List Value} {n b o i : Nat} {xs : List α} {a : α} (hc : Cells w0 l b o (xs.flatMap f)) (h : ∀ a ∈ xs, (f a).length = n) (hi : xs[i]? = some a) : Cells w0 l b (o + i * n) (f a) := by
  have := (hc.drop (i * n)).take n
  rw [chunk_at h hi] at this
  exact this
theorem Own.none {w : World} (h : Own w0 w l) : Own w0 w [] := ⟨h.below, True.intro⟩
theorem Rd.any {v : Value} {n : Nat} {cs : List Value} (h : Rd w0 [] v n cs) : Rd w0 l v n cs := h.conv fun _ h => h.none
theorem Cells.base0 {b o j : Nat} {vs : List Value} {v : Value} (h : Cells w0 [] b o vs) (hv : vs[j]? = some v) : w0.cell? ⟨b, o + j, .none⟩ = some v := h w0 (Own.nil w0) j v hv

theorem Cell.rowAt {g t o j : Nat} {cs : List Value} {v : Value} (hm : Has (Gp.row g t cs) l) (ho : o = j) (hv : cs[j]? = some v) : Cell w0 l ⟨g, o, .none⟩ v := by
  subst ho
  exact Cell.row hm hv

theorem chunk_set {α : Type} {f : α → List Value} {n j : Nat} {a a' : α} {v : Value} (hv : f a' = (f a).set j v) (hj : j < n) : ∀ {xs : List α} {i : Nat}, (∀ a ∈ xs, (f a).length = n) → xs[i]? = some a → (xs.flatMap f).set (i * n + j) v = (xs.set i a').flatMap f
  | [], i, _, hi => by simp at hi
  | x :: xs, 0, h, hi => by
    simp at hi; subst hi
    have := h x (by simp)
    simp only [Nat.zero_mul, Nat.zero_add, List.flatMap_cons, List.set_cons_zero, hv]
    rw [List.set_append_left _ _ (by omega)]
  | x :: xs, i + 1, h, hi => by
    have hx := h x (by simp)
    have ih := chunk_set hv hj (xs := xs) (i := i) (fun a ha => h a (by simp [ha])) (by simpa using hi)
    simp only [List.flatMap_cons, List.set_cons_succ]
    rw [List.set_append_right _ _ (by rw [hx, Nat.add_mul, Nat.one_mul]; omega), hx, show (i + 1) * n + j - n = i * n + j by rw [Nat.add_mul, Nat.one_mul]; omega, ih]

theorem chunk_spl1 {α : Type} {f : α → List Value} {n i j o : Nat} {xs : List α} {a a' : α} {v : Value} (h : ∀ a ∈ xs, (f a).length = n) (hi : xs[i]? = some a) (hv : f a' = (f a).set j v) (hj : j < n) (ho : o = i * n + j) : Spl (xs.flatMap f) o [v] ((xs.set i a').flatMap f) := by
  rw [← chunk_set hv hj h hi]
  refine spl_at ho ?_
  rw [chunk_length h]
  have h1 := (List.getElem?_eq_some_iff.1 hi).1
  have := Nat.mul_le_mul_right n (show i + 1 ≤ xs.length by omega)
  rw [Nat.add_mul, Nat.one_mul] at this
  omega

theorem chunk_get {α : Type} {f : α → List Value} {n i j : Nat} {xs : List α} {a : α} {v : Value} (h : ∀ a ∈ xs, (f a).length = n) (hi : xs[i]? = some a) (hv : (f a)[j]? = some v) : (xs.flatMap f)[i * n + j]? = some v := by
  have h1 := chunk_at h hi
  have hj := (List.getElem?_eq_some_iff.1 hv).1
  have hn := h a (List.mem_of_getElem? hi)
  rw [← h1, List.getElem?_take, if_pos (by omega), List.getElem?_drop] at hv
  exact hv
end Go.Gp
