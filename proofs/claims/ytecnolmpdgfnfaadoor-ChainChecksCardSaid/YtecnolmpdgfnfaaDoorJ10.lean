/- A text of the proof of a statement about the given program: loops, and slices that are opened. No person has read it. -/
import Derived.Test.YtecnolmpdgfnfaaDoorJ9
namespace Go.Gp
open Go
variable {w0 : World} {l : List HProp}

theorem SubEnv.nil {env : Env} : SubEnv [] env := True.intro
theorem SubEnv.cons {e env : Env} {t : Tmp} {v : Value} (h : Env.get env t = some v) (hs : SubEnv e env) : SubEnv ((t, v) :: e) env := ⟨h, hs⟩

theorem spl_all {a b : List Value} (h : b.length = a.length) : Spl a 0 b b := by
  have := Spl.mk (cs := a) (vs := b) (o := 0) (by omega)
  have e : List.take 0 a ++ b ++ List.drop (0 + b.length) a = b := by simp [h]
  rw [e] at this
  exact this

theorem spl_mid {pre post xs ys vs : List Value} {o i : Nat} (ho : o = pre.length + i) (h : Spl xs i vs ys) : Spl (pre ++ xs ++ post) o vs (pre ++ ys ++ post) := by
  subst ho
  obtain ⟨h1, h2⟩ := h.eq
  have := Spl.mk (cs := pre ++ xs ++ post) (vs := vs) (o := pre.length + i) (by simp; omega)
  have e : List.take (pre.length + i) (pre ++ xs ++ post) ++ vs ++ List.drop (pre.length + i + vs.length) (pre ++ xs ++ post) = pre ++ ys ++ post := by
    rw [h2]
    have e1 : List.take (pre.length + i) (pre ++ xs ++ post) = pre ++ xs.take i := by
      rw [List.append_assoc, List.take_length_add_append, List.take_append_of_le_length (by omega)]
    have e2 : List.drop (pre.length + i + vs.length) (pre ++ xs ++ post) = xs.drop (i + vs.length) ++ post := by
      rw [List.append_assoc, Nat.add_assoc, List.drop_length_add_append, List.drop_append_of_le_length (by omega)]
    rw [e1, e2]; simp
  rw [e] at this
  exact this

theorem spl_one {xs : List Value} {i : Nat} {v : Value} (h : i < xs.length) : Spl xs i [v] (xs.set i v) := by
  have := Spl.mk (cs := xs) (vs := [v]) (o := i) (by simp; omega)
  have e : List.take i xs ++ [v] ++ List.drop (i + [v].length) xs = xs.set i v := by
    rw [List.set_eq_take_append_cons_drop, if_pos h]; simp
  rw [e] at this
  exact this

theorem spl_at {xs : List Value} {o i : Nat} {v : Value} (ho : o = i) (h : i < xs.length) : Spl xs o [v] (xs.set i v) := by subst ho; exact spl_one h

theorem Cell.mid {g t o j : Nat} {pre xs post : List Value} {v : Value} (hm : Has (Gp.row g t (pre ++ xs ++ post)) l) (ho : o = pre.length + j) (hx : xs[j]? = some v) : Cell w0 l ⟨g, o, none⟩ v := by
  subst ho
  refine Cell.row hm ?_
  have := (List.getElem?_eq_some_iff.1 hx).1
  rw [List.append_assoc, List.getElem?_append_right (by omega), Nat.add_sub_cancel_left, List.getElem?_append_left this]
  exact hx

theorem Cells.midN {g t o : Nat} {pre xs post : List Value} (hm : Has (Gp.row g t (pre ++ xs ++ post)) l) (ho : o = pre.length) : Cells w0 l g o xs := ho ▸ Cells.mid hm

theorem Cells.midChunk {α : Type} {f : α → List Value} {n g t i : Nat} {pre post : List Value} {xs : List α} {a : α} (hm : Has (Gp.row g t (pre ++ xs.flatMap f ++ post)) l) (h : ∀ a ∈ xs, (f a).length = n) (hi : xs[i]? = some a) : Cells w0 l g (pre.length + i * n) (f a) := by
  have hl : i < xs.length := (List.getElem?_eq_some_iff.1 hi).1
  refine Cells.sub n hm ?_
  rw [List.append_assoc, List.drop_append, List.drop_eq_nil_of_le (by omega), List.nil_append, Nat.add_sub_cancel_left, List.drop_append_of_le_length, List.take_append_of_le_length]
  · exact chunk_at h hi
  · have := chunk_length h
    rw [List.length_drop, this]
    have : n ≤ xs.length * n - i * n := by
      rw [← Nat.sub_mul]
      exact Nat.le_mul_of_pos_left _ (by omega)
    exact this
  · rw [chunk_length h]
    exact Nat.mul_le_mul_right _ (by omega)

theorem Cell.midChunk {α : Type} {f : α → List Value} {n g t i j o : Nat} {pre post : List Value} {xs : List α} {a : α} {v : Value} (hm : Has (Gp.row g t (pre ++ xs.flatMap f ++ post)) l) (h : ∀ a ∈ xs, (f a).length = n) (hi : xs[i]? = some a) (ho : o = pre.length + i * n + j) (hv : (f a)[j]? = some v) : Cell w0 l ⟨g, o, none⟩ v := by
  subst ho
  exact (Cells.midChunk hm h hi).at j hv

theorem Cells.cell {l' : List HProp} {b o o' j : Nat} {vs : List Value} {v : Value} (h : Cells w0 l b o vs) (hl : ∀ w, Own w0 w l' → Own w0 w l) (ho : o' = o + j) (hv : vs[j]? = some v) : Cell w0 l' ⟨b, o', none⟩ v := by
  subst ho
  exact (h.conv hl).at j hv

/-- A loop, by what holds at its head. -/
theorem J.loopI {C : Cx} {c : Code} {k : List Item} {env : Env} {σ : Type} (μ : σ → Nat) (I : σ → Prop) (E : σ → Env) (L : σ → List HProp) (s0 : σ) (h0 : I s0) (he : SubEnv (E s0) env) (hl : ∀ w, Own C.w0 w l → Own C.w0 w (L s0))
    (body : ∀ s, I s → (∀ s', I s' → μ s' < μ s → ∀ {env' l'}, SubEnv (E s') env' → (∀ w, Own C.w0 w l' → Own C.w0 w (L s')) → J C (.inLoop c :: k) env' l') → J C (.code c :: .inLoop c :: k) (E s) (L s)) :
    J C (.code (.loop c) :: k) env l :=
  J.loop (J.sub he (J.conv hl (J.ind μ I E L (fun s hs back => body s hs fun s' hs' hlt _ _ he' hl' => J.sub he' (J.conv hl' (back s' hs' hlt))) (fun _ h => J.inLoop h) s0 h0)))

/-- A slice that is owned, opened. -/
theorem J.ownOpen {C : Cx} {k : List Item} {env : Env} {e sz n : Nat} {v : Value} {xs : List Value} (hn : 0 < n)
    (h : ∀ g pre post cap, v = .slice (some ⟨g, pre.length, none⟩) n cap → n ≤ cap → cap ≤ maxLen → xs.length = n * sz → (cap - n) * sz ≤ post.length → J C k env (row g e (pre ++ xs ++ post) :: l)) :
    J C k env (own e sz v n xs :: l) := by
  refine J.open (α := Nat × List Value × List Value × Nat) (p := fun x => v = .slice (some ⟨x.1, x.2.1.length, none⟩) n x.2.2.2 ∧ n ≤ x.2.2.2 ∧ x.2.2.2 ≤ maxLen ∧ xs.length = n * sz ∧ (x.2.2.2 - n) * sz ≤ x.2.2.1.length)
    (l' := fun x => row x.1 e (x.2.1 ++ xs ++ x.2.2.1) :: l) (fun w ho => ?_) fun x hx => h x.1 x.2.1 x.2.2.1 x.2.2.2 hx.1 hx.2.1 hx.2.2.1 hx.2.2.2.1 hx.2.2.2.2
  obtain ⟨g, pre, post, cap, h1, h2, h3, h4, h5, h6⟩ := ho.own_form hn
  exact ⟨⟨g, pre, post, cap⟩, ⟨h1, h2, h3, h4, h5⟩, h6⟩

theorem JL.ownOpen {C : Cx} {ops rest : List Oper} {k : List Item} {env : Env} {e sz n : Nat} {v : Value} {xs : List Value} (hn : 0 < n)
    (h : ∀ g pre post cap, v = .slice (some ⟨g, pre.length, none⟩) n cap → n ≤ cap → cap ≤ maxLen → xs.length = n * sz → (cap - n) * sz ≤ post.length → JL C ops rest k env (row g e (pre ++ xs ++ post) :: l)) :
    JL C ops rest k env (own e sz v n xs :: l) := by
  refine JL.open (α := Nat × List Value × List Value × Nat) (p := fun x => v = .slice (some ⟨x.1, x.2.1.length, none⟩) n x.2.2.2 ∧ n ≤ x.2.2.2 ∧ x.2.2.2 ≤ maxLen ∧ xs.length = n * sz ∧ (x.2.2.2 - n) * sz ≤ x.2.2.1.length)
    (l' := fun x => row x.1 e (x.2.1 ++ xs ++ x.2.2.1) :: l) (fun w ho => ?_) fun x hx => h x.1 x.2.1 x.2.2.1 x.2.2.2 hx.1 hx.2.1 hx.2.2.1 hx.2.2.2.1 hx.2.2.2.2
  obtain ⟨g, pre, post, cap, h1, h2, h3, h4, h5, h6⟩ := ho.own_form hn
  exact ⟨⟨g, pre, post, cap⟩, ⟨h1, h2, h3, h4, h5⟩, h6⟩

theorem JL.ownLit {C : Cx} {ops rest : List Oper} {k : List Item} {env : Env} {e sz n : Nat} {v : Value} {xs : List Value} (h : ∀ a c, v = .slice a n c → JL C ops rest k env (own e sz v n xs :: l)) : JL C ops rest k env (own e sz v n xs :: l) := by
  refine JL.open (α := Option Addr × Nat) (p := fun x => v = .slice x.1 n x.2) (l' := fun _ => own e sz v n xs :: l) (fun w ho => ?_) fun x hx => h x.1 x.2 hx
  obtain ⟨a, c, h⟩ := ho.own_lit
  exact ⟨⟨a, c⟩, h, ho⟩

theorem J.ownLit {C : Cx} {k : List Item} {env : Env} {e sz n : Nat} {v : Value} {xs : List Value} (h : ∀ a c, v = .slice a n c → J C k env (own e sz v n xs :: l)) : J C k env (own e sz v n xs :: l) := by
  refine J.open (α := Option Addr × Nat) (p := fun x => v = .slice x.1 n x.2) (l' := fun _ => own e sz v n xs :: l) (fun w ho => ?_) fun x hx => h x.1 x.2 hx
  obtain ⟨a, c, h⟩ := ho.own_lit
  exact ⟨⟨a, c⟩, h, ho⟩

theorem JL.pick {C : Cx} {ops rest : List Oper} {k : List Item} {env : Env} {pre F : List HProp} (is : List Nat) (hd : pickB pre.length is = true) (h : JL C ops rest k env (is.filterMap (fun i => pre[i]?) ++ F)) : JL C ops rest k env (pre ++ F) :=
  JL.conv (fun _ ho => ho.pick is hd) h

theorem Rd.ofRow {b e n c : Nat} {cs : List Value} (hm : Has (row b e cs) l) (hc : n ≤ c) : Rd w0 l (.slice (some ⟨b, 0, none⟩) n c) n cs := .inr ⟨b, 0, c, rfl, hc, Cells.full hm⟩

/-- A list of filled places. -/
def upto {α : Type} (n i : Nat) (f : Nat → α) (z : α) : List α := (List.range n).map fun j => if j < i then f j else z

theorem upto_length {α : Type} (n i : Nat) (f : Nat → α) (z : α) : (upto n i f z).length = n := by simp [upto]
theorem upto_zero {α : Type} (n : Nat) (f : Nat → α) (z : α) : upto n 0 f z = List.replicate n z := by
  refine List.ext_getElem? fun j => ?_
  simp only [upto, List.getElem?_map, List.getElem?_replicate]
  by_cases h : j < n
  · simp [h]
  · simp [h]
theorem upto_full {α : Type} (n : Nat) (f : Nat → α) (z : α) : upto n n f z = (List.range n).map f := by
  refine List.map_congr_left fun j hj => ?_
  rw [if_pos (List.mem_range.1 hj)]
theorem upto_set {α : Type} {n i : Nat} (f : Nat → α) (z : α) : (upto n i f z).set i (f i) = upto n (i + 1) f z := by
  refine List.ext_getElem? fun j => ?_
  rw [List.getElem?_set]
  by_cases hn : j < n
  · by_cases h : i = j
    · subst h; simp [upto, hn]
    · have : (j < i + 1) = (j < i) := by simp; omega
      simp [upto, h, hn, this]
  · have e1 : (upto n i f z)[j]? = none := List.getElem?_eq_none (by rw [upto_length]; omega)
    have e2 : (upto n (i+1) f z)[j]? = none := List.getElem?_eq_none (by rw [upto_length]; omega)
    rw [e1, e2]; split
    · rw [if_neg (by rw [upto_length]; omega)]
    · rfl
end Go.Gp
