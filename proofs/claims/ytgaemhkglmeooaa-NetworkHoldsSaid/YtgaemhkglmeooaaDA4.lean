/- A text of the proof of a statement about the given program: its part DA4. No person has read it. -/
import Derived.Test.YtgaemhkglmeooaaDA3
import Derived.Test.YtgaemhkglmeooaaDJ2
-- seat d
namespace Go.Proofs.D
open Go Go.Gp Go.RowKit

/-! What holds of all networks. -/
theorem nodeN_pre (ns : List Nd) (x : Nd) : ns <+: nodeN ns x := by
  rw [nodeN]
  split
  · exact List.prefix_refl _
  · exact List.prefix_append _ _
theorem pre_get {α : Type} {a b : List α} {i : Nat} {x : α} (h : a <+: b) (hi : a[i]? = some x) : b[i]? = some x := by
  obtain ⟨t, rfl⟩ := h
  rw [List.getElem?_append_left (List.getElem?_eq_some_iff.1 hi).1]
  exact hi
theorem nodeN_at (ns : List Nd) (x : Nd) : ∃ y, (nodeN ns x)[place ns x]? = some y ∧ key y = key x := by
  by_cases h : place ns x < ns.length
  · obtain ⟨y, h1, h2⟩ := place_key h
    exact ⟨y, by rw [nodeN_old h]; exact h1, h2⟩
  · have e : place ns x = ns.length := by have := place_le ns x; omega
    exact ⟨x, by rw [nodeN_new e, e]; simp, rfl⟩
theorem place_ne {ns : List Nd} {x : Nd} (h : place ns x = ns.length) : ∀ y ∈ ns, key y ≠ key x := by
  intro y hy
  rw [place, List.findIdx_eq_length] at h
  simpa using h y hy
/-- A node that is right, among those ahead of it. -/
structure UpOk (ns : List Nd) (i : Nat) (x : Nd) : Prop where
  go : ∃ p o : Nat, x.p = (p : Nat) ∧ x.o = (o : Nat) ∧ p < i ∧ o < i ∧ ∃ u s, ns[p]? = some u ∧ ns[o]? = some s ∧
    (x.k = 2 ∧ (u.k = 0 ∨ u.k = 2) ∧ x.o = 0 ∨ x.k = 3 ∧ (u.k = 1 ∨ u.k = 3) ∧ x.o = 0 ∨ x.k = 5 ∧ (u.k = 4 ∨ u.k = 5) ∧ x.o = 0 ∨ x.k = 4 ∧ (u.k = 0 ∨ u.k = 2) ∧ (s.k = 1 ∨ s.k = 3))
theorem UpOk.mono {ns ms : List Nd} {i : Nat} {x : Nd} (h : UpOk ns i x) (hp : ns <+: ms) : UpOk ms i x := by
  obtain ⟨p, o, h1, h2, h3, h4, u, s, h5, h6, h7⟩ := h.go
  exact ⟨p, o, h1, h2, h3, h4, u, s, pre_get hp h5, pre_get hp h6, h7⟩
structure Good (ns : List Nd) : Prop where
  z : ∃ a, ns[0]? = some a ∧ a.k = 0
  o : ∃ a, ns[1]? = some a ∧ a.k = 1
  diff : ∀ (i j : Nat) (x y : Nd), ns[i]? = some x → ns[j]? = some y → j < i → key x ≠ key y
  up : ∀ (i : Nat) (x : Nd), 2 ≤ i → ns[i]? = some x → UpOk ns i x
theorem Good.node {ns : List Nd} {x : Nd} (h : Good ns) (hx : UpOk ns ns.length x) : Good (nodeN ns x) := by
  by_cases hl : place ns x < ns.length
  · rw [nodeN_old hl]; exact h
  · have e : place ns x = ns.length := by have := place_le ns x; omega
    have hne := place_ne e
    have hp := nodeN_pre ns x
    rw [nodeN_new e] at hp ⊢
    obtain ⟨⟨a, a1, a2⟩, ⟨b, b1, b2⟩, hd, hu⟩ := h
    refine ⟨⟨a, pre_get hp a1, a2⟩, ⟨b, pre_get hp b1, b2⟩, ?_, ?_⟩
    · intro i j y z hi hj hji
      by_cases hin : i < ns.length
      · rw [List.getElem?_append_left hin] at hi
        rw [List.getElem?_append_left (by omega)] at hj
        exact hd i j y z hi hj hji
      · have : i = ns.length := by have := (List.getElem?_eq_some_iff.1 hi).1; simp at this; omega
        subst this
        rw [List.getElem?_append_left (by omega)] at hj
        simp at hi
        subst hi
        exact fun q => hne z (List.mem_of_getElem? hj) q.symm
    · intro i y hi2 hi
      by_cases hin : i < ns.length
      · rw [List.getElem?_append_left hin] at hi
        exact (hu i y hi2 hi).mono hp
      · have : i = ns.length := by have := (List.getElem?_eq_some_iff.1 hi).1; simp at this; omega
        subst this
        simp at hi
        subst hi
        exact hx.mono hp
/-- The tests from a node up, and how many nodes that takes. -/
inductive Up (ns : List Nd) : Nat → List Nf → Nat → Prop
  | root {i : Nat} {x : Nd} (h : ns[i]? = some x) (hk : x.k < 2) : Up ns i [] 1
  | test {i p : Nat} {x : Nd} {ts : List Nf} {n : Nat} (h : ns[i]? = some x) (hk : 2 ≤ x.k) (hk4 : x.k ≠ 4) (hp : x.p = (p : Nat)) (hpi : p < i) (ho : x.o = 0) (hu : Up ns p ts n) : Up ns i (enf x.t :: ts) (n + 1)
  | join {i p o : Nat} {x : Nd} {ts us : List Nf} {n m : Nat} (h : ns[i]? = some x) (hk : x.k = 4) (hp : x.p = (p : Nat)) (hpi : p < i) (ho : x.o = (o : Nat)) (hoi : o < i) (h1 : Up ns o ts n) (h2 : Up ns p us m) : Up ns i (ts ++ us) (n + m + 1)
theorem Up.mono {ns ms : List Nd} {i : Nat} {ts : List Nf} {n : Nat} (h : Up ns i ts n) (hp : ns <+: ms) : Up ms i ts n := by
  induction h with
  | root h hk => exact .root (pre_get hp h) hk
  | test h hk hk4 h1 h2 h3 _ ih => exact .test (pre_get hp h) hk hk4 h1 h2 h3 ih
  | join h hk h1 h2 h3 h4 _ _ ih1 ih2 => exact .join (pre_get hp h) hk h1 h2 h3 h4 ih1 ih2
theorem Up.lt {ns : List Nd} {i : Nat} {ts : List Nf} {n : Nat} (h : Up ns i ts n) : i < ns.length ∧ 1 ≤ n := by
  cases h with
  | root h hk => exact ⟨(List.getElem?_eq_some_iff.1 h).1, Nat.le_refl _⟩
  | test h hk hk4 h1 h2 h3 _ => exact ⟨(List.getElem?_eq_some_iff.1 h).1, by omega⟩
  | join h hk h1 h2 h3 h4 _ _ => exact ⟨(List.getElem?_eq_some_iff.1 h).1, by omega⟩
/-- A row of nodes of a side, below one. -/
theorem row_good {side c : Int} (hs : side = 2 ∧ c = 0 ∨ side = 3 ∧ c = 1 ∨ side = 5 ∧ c = 4) : ∀ (l : List Ex) (ns : List Nd) (f : Nat) (u : Nd) (ts : List Nf) (n : Nat), Good ns → ns[f]? = some u → (u.k = c ∨ u.k = side) → Up ns f ts n →
    ∃ (f' : Nat) (u' : Nd), (rowN side (ns, (f : Nat)) l).2 = (f' : Nat) ∧ Good (rowN side (ns, (f : Nat)) l).1 ∧ ns <+: (rowN side (ns, (f : Nat)) l).1 ∧ (rowN side (ns, (f : Nat)) l).1[f']? = some u' ∧ (u'.k = c ∨ u'.k = side) ∧ Up (rowN side (ns, (f : Nat)) l).1 f' ((l.map enf).reverse ++ ts) (n + l.length)
  | [], ns, f, u, ts, n, hg, hu, hk, hup => ⟨f, u, rfl, hg, List.prefix_refl _, hu, hk, hup⟩
  | e :: l, ns, f, u, ts, n, hg, hu, hk, hup => by
    obtain ⟨a, a1, a2⟩ := hg.z
    have hfl := (List.getElem?_eq_some_iff.1 hu).1
    have hx : UpOk ns ns.length ⟨side, (f : Nat), 0, e⟩ := ⟨f, 0, rfl, rfl, hfl, by omega, u, a, hu, a1, by dsimp only; rcases hs with ⟨rfl, rfl⟩ | ⟨rfl, rfl⟩ | ⟨rfl, rfl⟩ <;> simp <;> omega⟩
    have hg2 := hg.node hx
    have hp := nodeN_pre ns ⟨side, (f : Nat), 0, e⟩
    obtain ⟨y, y1, y2⟩ := nodeN_at ns ⟨side, (f : Nat), 0, e⟩
    obtain ⟨k1, k2, k3, k4⟩ := key_iff.1 y2
    dsimp only at k1 k2 k3 k4
    have hfp : f < place ns ⟨side, (f : Nat), 0, e⟩ := by
      by_cases hl : place ns ⟨side, (f : Nat), 0, e⟩ < ns.length
      · rw [nodeN_old hl] at y1
        by_cases h2 : 2 ≤ place ns ⟨side, (f : Nat), 0, e⟩
        · obtain ⟨p, o, q1, q2, q3, q4, _⟩ := (hg.up _ y h2 y1).go
          omega
        · exfalso
          obtain ⟨b, b1, b2⟩ := hg.o
          have : place ns ⟨side, (f : Nat), 0, e⟩ = 0 ∨ place ns ⟨side, (f : Nat), 0, e⟩ = 1 := by omega
          rcases this with h0 | h0
          · rw [h0, a1] at y1
            cases y1
            omega
          · rw [h0, b1] at y1
            cases y1
            omega
      · have := place_le ns ⟨side, (f : Nat), 0, e⟩
        omega
    have hup2 : Up (nodeN ns ⟨side, (f : Nat), 0, e⟩) (place ns ⟨side, (f : Nat), 0, e⟩) (enf e :: ts) (n + 1) := by
      rw [← k4]
      exact .test y1 (by omega) (by omega) k2 hfp k3 (hup.mono hp)
    obtain ⟨f', u', r1, r2, r3, r4, r5, r6⟩ := row_good hs l _ _ y _ _ hg2 y1 (.inr k1) hup2
    have e1 : rowN side (ns, (f : Nat)) (e :: l) = rowN side (nodeN ns ⟨side, (f : Nat), 0, e⟩, (place ns ⟨side, (f : Nat), 0, e⟩ : Nat)) l := rfl
    rw [e1]
    refine ⟨f', u', r1, r2, hp.trans r3, r4, r5, ?_⟩
    rw [List.map_cons, List.reverse_cons, List.append_assoc, List.singleton_append, List.length_cons, show n + (l.length + 1) = n + 1 + l.length by omega]
    exact r6
/-- A rule's nodes. -/
theorem rule_good {ns : List Nd} (hg : Good ns) (l : List Ex) : ∃ f : Nat, (ruleN ns l).2 = (f : Nat) ∧ 2 ≤ f ∧ Good (ruleN ns l).1 ∧ ns <+: (ruleN ns l).1 ∧
    Up (ruleN ns l).1 f (((ofS l 5).map enf).reverse ++ (((ofS l 3).map enf).reverse ++ ((ofS l 2).map enf).reverse)) ((ofS l 5).length + (ofS l 3).length + (ofS l 2).length + 3) := by
  obtain ⟨a, a1, a2⟩ := hg.z
  obtain ⟨f1, u1, p1, p2, p3, p4, p5, p6⟩ := row_good (.inl ⟨rfl, rfl⟩) (ofS l 2) ns 0 a [] 1 hg a1 (.inl a2) (.root a1 (by omega))
  rw [show ((0 : Nat) : Int) = 0 from rfl, ← ruleA] at p1 p2 p3 p4 p6
  obtain ⟨b, b1, b2⟩ := p2.o
  obtain ⟨f2, u2, q1, q2, q3, q4, q5, q6⟩ := row_good (.inr (.inl ⟨rfl, rfl⟩)) (ofS l 3) (ruleA ns l).1 1 b [] 1 p2 b1 (.inl b2) (.root b1 (by omega))
  rw [show ((1 : Nat) : Int) = 1 from rfl, ← ruleB] at q1 q2 q3 q4 q6
  have h1 := (List.getElem?_eq_some_iff.1 q4).1
  have h2 := (List.getElem?_eq_some_iff.1 (pre_get q3 p4)).1
  have hj : UpOk (ruleB ns l).1 (ruleB ns l).1.length (ruleJ ns l) := ⟨f1, f2, p1, q1, h2, h1, u1, u2, pre_get q3 p4, q4, .inr (.inr (.inr ⟨rfl, p5, q5⟩))⟩
  have hg3 := q2.node hj
  have hpre := nodeN_pre (ruleB ns l).1 (ruleJ ns l)
  obtain ⟨y, y1, y2⟩ := nodeN_at (ruleB ns l).1 (ruleJ ns l)
  obtain ⟨k1, k2, k3, k4⟩ := key_iff.1 y2
  have k1 : y.k = 4 := k1
  have k2 : y.p = (f1 : Nat) := k2.trans p1
  have k3 : y.o = (f2 : Nat) := k3.trans q1
  have hlt : f1 < place (ruleB ns l).1 (ruleJ ns l) ∧ f2 < place (ruleB ns l).1 (ruleJ ns l) ∧ 2 ≤ place (ruleB ns l).1 (ruleJ ns l) := by
    have h2p : 2 ≤ place (ruleB ns l).1 (ruleJ ns l) := by
      by_cases h0 : 2 ≤ place (ruleB ns l).1 (ruleJ ns l)
      · exact h0
      · exfalso
        obtain ⟨a, a1, a2⟩ := hg3.z
        obtain ⟨b, b1, b2⟩ := hg3.o
        have : place (ruleB ns l).1 (ruleJ ns l) = 0 ∨ place (ruleB ns l).1 (ruleJ ns l) = 1 := by omega
        rcases this with h0 | h0
        · rw [h0, a1] at y1
          cases y1
          omega
        · rw [h0, b1] at y1
          cases y1
          omega
    obtain ⟨p, o, w1, w2, w3, w4, _⟩ := (hg3.up _ y h2p y1).go
    omega
  have hup : Up (ruleC ns l).1 (place (ruleB ns l).1 (ruleJ ns l)) _ _ := .join y1 k1 k2 hlt.1 k3 hlt.2.1 (q6.mono hpre) ((p6.mono q3).mono hpre)
  obtain ⟨f4, u4, r1, r2, r3, r4, r5, r6⟩ := row_good (.inr (.inr ⟨rfl, rfl⟩)) (ofS l 5) (ruleC ns l).1 _ y _ _ hg3 y1 (.inl k1) hup
  rw [show ((ruleC ns l).1, ((place (ruleB ns l).1 (ruleJ ns l) : Nat) : Int)) = ruleC ns l from rfl, ← ruleN] at r1 r2 r3 r4 r6
  refine ⟨f4, r1, ?_, r2, ((p3.trans q3).trans hpre).trans r3, ?_⟩
  · by_cases h0 : 2 ≤ f4
    · exact h0
    · exfalso
      obtain ⟨a, a1, a2⟩ := r2.z
      obtain ⟨b, b1, b2⟩ := r2.o
      have : f4 = 0 ∨ f4 = 1 := by omega
      rcases this with h0 | h0
      · rw [h0, a1] at r4
        cases r4
        omega
      · rw [h0, b1] at r4
        cases r4
        omega
  · rw [List.append_nil, List.append_nil, show 1 + (ofS l 3).length + (1 + (ofS l 2).length) + 1 + (ofS l 5).length = (ofS l 5).length + (ofS l 3).length + (ofS l 2).length + 3 by omega] at r6
    exact r6
end Go.Proofs.D

-- seat d
namespace Go.Proofs.D
open Go Go.Gp Go.RowKit

theorem net0_good : Good [⟨0, 0, 0, zeroE⟩, ⟨1, 0, 0, zeroE⟩] := by
  refine ⟨⟨_, rfl, rfl⟩, ⟨_, rfl, rfl⟩, ?_, ?_⟩
  · intro i j x y hi hj hji
    match i, j with
    | 0, _ => omega
    | 1, 0 =>
      simp at hi hj
      subst hi hj
      simp [key]
    | 1, j + 1 => omega
    | i + 2, _ => simp at hi
  · intro i x hi2 hi
    match i with
    | 0 => omega
    | 1 => omega
    | i + 2 => simp at hi
end Go.Proofs.D

-- seat d
namespace Go.Proofs.D
open Go Go.Gp Go.RowKit

theorem side_of (n : Nf) : sideN n = 2 ∨ sideN n = 3 ∨ sideN n = 5 ∨ sideN n = 6 := by
  rw [sideN]
  split
  · simp
  · split
    · simp
    · split <;> simp
theorem ofS_cons (e : Ex) (l : List Ex) (s : Int) : ofS (e :: l) s = if sideN (enf e) = s then e :: ofS l s else ofS l s := by
  rw [ofS, List.filter_cons, ofS]
  simp
theorem of_perm : ∀ l : List Ex, (ofS l 5 ++ (ofS l 3 ++ ofS l 2) ++ ofS l 6).Perm l
  | [] => List.Perm.refl _
  | e :: l => by
    have ih := of_perm l
    rw [ofS_cons, ofS_cons, ofS_cons, ofS_cons]
    rcases side_of (enf e) with h | h | h | h
    · rw [h]
      simp only [show ¬ ((2 : Int) = 5) by decide, show ¬ ((2 : Int) = 3) by decide, show ¬ ((2 : Int) = 6) by decide, if_true, if_false]
      refine List.Perm.trans ?_ (ih.cons e)
      rw [← List.append_assoc (ofS l 5), ← List.append_assoc (ofS l 5), List.append_assoc _ (e :: ofS l 2), List.cons_append, List.append_assoc _ (ofS l 2)]
      exact List.perm_middle
    · rw [h]
      simp only [show ¬ ((3 : Int) = 5) by decide, show ¬ ((3 : Int) = 2) by decide, show ¬ ((3 : Int) = 6) by decide, if_true, if_false]
      refine List.Perm.trans ?_ (ih.cons e)
      rw [List.append_assoc (ofS l 5), List.append_assoc (ofS l 5), List.cons_append, List.cons_append]
      exact List.perm_middle
    · rw [h]
      simp only [show ¬ ((5 : Int) = 3) by decide, show ¬ ((5 : Int) = 2) by decide, show ¬ ((5 : Int) = 6) by decide, if_true, if_false]
      exact ih.cons e
    · rw [h]
      simp only [show ¬ ((6 : Int) = 3) by decide, show ¬ ((6 : Int) = 2) by decide, show ¬ ((6 : Int) = 5) by decide, if_true, if_false]
      exact List.perm_middle.trans (ih.cons e)
/-- What holds of a rule's end. -/
structure EndOk (d : Dc) (ns : List Nd) (q : PP) : Prop where
  go : ∃ (p : Po) (r : Ru) (f : Nat) (ts : List Nf) (n : Nat), d.ps[q.1]? = some p ∧ p.rs[q.2.1]? = some r ∧ q.2.2.1 = (f : Nat) ∧ 2 ≤ f ∧ Up ns f ts n ∧ n ≤ 123 ∧ (ts ++ q.2.2.2.map enf).Perm ((all p r).map enf)
theorem netN_ends {w0 : World} {d : Dc} (hd : DcT w0 d) : ∀ q ∈ (netN d).2, EndOk d (netN d).1 q := by
  refine (netN_ind (Q := fun n => Good n.1 ∧ ∀ q ∈ n.2, EndOk d n.1 q) ⟨net0_good, by simp⟩ ?_).2
  intro n i k p r ⟨hg, hn⟩ hi hk
  obtain ⟨f, h1, h2, h3, h4, h5⟩ := rule_good hg (all p r)
  refine ⟨h3, ?_⟩
  intro q hq
  rcases List.mem_append.1 hq with hq | hq
  · obtain ⟨p', r', f', ts, m, a1, a2, a3, a4, a5, a6, a7⟩ := (hn q hq).go
    exact ⟨p', r', f', ts, m, a1, a2, a3, a4, a5.mono h4, a6, a7⟩
  · rw [List.mem_singleton.1 hq]
    have hp := hd.po p (List.mem_of_getElem? hi)
    have hl := (all_tr hp.e (hp.ru r (List.mem_of_getElem? hk))).2
    have hpm := of_perm (all p r)
    have hlen := hpm.length_eq
    simp only [List.length_append] at hlen
    refine ⟨p, r, f, _, _, hi, hk, h1, h2, h5, by omega, ?_⟩
    refine List.Perm.trans ?_ (hpm.map enf)
    simp only [List.map_append]
    refine List.Perm.append_right _ ?_
    exact (List.reverse_perm _).append ((List.reverse_perm _).append (List.reverse_perm _))
open Classical in
/-- How often a tree is in a list. -/
noncomputable def cnt (w : Ex) (l : List Ex) : Nat := l.countP fun e => decide (enf w = enf e)
open Classical in
theorem cnt_take {w e : Ex} {l : List Ex} {k : Nat} (h : l[k]? = some e) : cnt w (l.take (k + 1)) = cnt w (l.take k) + (if enf w = enf e then 1 else 0) := by
  rw [cnt, List.take_add_one, h, Option.toList_some, List.countP_append, cnt]
  congr 1
  by_cases he : enf w = enf e
  · simp [he]
  · simp [he]
theorem cnt_le (w : Ex) (l : List Ex) : cnt w l ≤ l.length := List.countP_le_length
theorem cnt_perm {w : Ex} {l m : List Ex} (h : (l.map enf).Perm (m.map enf)) : cnt w l = cnt w m := by
  have := h.countP_eq fun n => @decide (enf w = n) (Classical.propDecidable _)
  rw [List.countP_map, List.countP_map] at this
  exact this
end Go.Proofs.D

-- seat d
namespace Go.Proofs.D
open Go Go.Gp Go.RowKit

abbrev ecells (l : List Nat) : List Value := l.map fun n => Value.int .i64 (n : Nat)
theorem ecells_one (l : List Nat) : ∀ u ∈ ecells l, u.oneCell' = true := by
  intro u hu
  obtain ⟨n, _, rfl⟩ := List.mem_map.1 hu
  rfl
theorem ecells_get {l : List Nat} {i x : Nat} (h : l[i]? = some x) : (ecells l)[i]? = some (.int .i64 (x : Nat)) := by simp [ecells, h]
abbrev Que := List (Nat × List Nf × Nat)
def total (Q : Que) : Nat := (Q.map fun q => q.2.2).sum
def testsOf (Q : Que) : List Nf := Q.flatMap fun q => q.2.1
/-- How far the way up is gone. -/
structure Way (w0 : World) (ns : List Nd) (TS : List Nf) (m : Nat) (i : Nat) (ends : List Nat) (Q : Que) (ts : List Ex) : Prop where
  e : ends.drop i = Q.map fun q => q.1
  l : i ≤ ends.length
  u : ∀ q ∈ Q, Up ns q.1 q.2.1 q.2.2
  p : (ts.map enf ++ testsOf Q).Perm TS
  t : ∀ x ∈ ts, Tr w0 x
  s : i + total Q = m
theorem Way.at {w0 : World} {ns : List Nd} {TS : List Nf} {m i : Nat} {ends : List Nat} {q : Nat × List Nf × Nat} {Q : Que} {ts : List Ex} (h : Way w0 ns TS m i ends (q :: Q) ts) : ends[i]? = some q.1 ∧ ends.drop (i + 1) = Q.map fun q => q.1 := by
  have h1 := h.e
  have hl : i < ends.length := by
    rcases Nat.lt_or_ge i ends.length with h2 | h2
    · exact h2
    · rw [List.drop_of_length_le h2] at h1
      cases h1
  rw [List.drop_eq_getElem_cons hl, List.map_cons] at h1
  injection h1 with h1 h2
  exact ⟨by rw [List.getElem?_eq_getElem hl, h1], h2⟩
theorem total_pos {ns : List Nd} : ∀ {Q : Que}, (∀ q ∈ Q, Up ns q.1 q.2.1 q.2.2) → Q.length ≤ total Q
  | [], _ => Nat.le_refl _
  | q :: Q, h => by
    have ih := total_pos (Q := Q) fun q hq => h q (by simp [hq])
    have h1 := (h q (by simp)).lt.2
    simp only [total, List.map_cons, List.sum_cons, List.length_cons] at ih ⊢
    omega
/-- On, past a root. -/
theorem Way.root {w0 : World} {ns : List Nd} {TS : List Nf} {m i f : Nat} {ends : List Nat} {Q : Que} {ts : List Ex} (h : Way w0 ns TS m i ends ((f, [], 1) :: Q) ts) : Way w0 ns TS m (i + 1) ends Q ts := by
  refine ⟨h.at.2, ?_, fun q hq => h.u q (by simp [hq]), ?_, h.t, ?_⟩
  · exact (List.getElem?_eq_some_iff.1 h.at.1).1
  · have := h.p
    simpa [testsOf] using this
  · have := h.s
    simp only [total, List.map_cons, List.sum_cons] at this ⊢
    omega
theorem Way.test {w0 : World} {ns : List Nd} {TS us : List Nf} {m i f p n : Nat} {ends : List Nat} {Q : Que} {ts : List Ex} {t : Ex} (h : Way w0 ns TS m i ends ((f, enf t :: us, n + 1) :: Q) ts) (ht : Tr w0 t) (hu : Up ns p us n) : Way w0 ns TS m (i + 1) (ends ++ [p]) (Q ++ [(p, us, n)]) (ts ++ [t]) := by
  have hl := (List.getElem?_eq_some_iff.1 h.at.1).1
  refine ⟨?_, ?_, ?_, ?_, ?_, ?_⟩
  · rw [List.drop_append_of_le_length (by omega), h.at.2, List.map_append]; rfl
  · rw [List.length_append]; omega
  · intro q hq
    rcases List.mem_append.1 hq with hq | hq
    · exact h.u q (by simp [hq])
    · rw [List.mem_singleton.1 hq]; exact hu
  · have := h.p
    simp only [testsOf, List.flatMap_cons, List.flatMap_append, List.flatMap_nil, List.append_nil, List.map_append, List.map_cons, List.map_nil] at this ⊢
    refine List.Perm.trans ?_ this
    rw [List.append_assoc]
    refine List.Perm.append_left _ ?_
    rw [List.singleton_append, List.cons_append]
    exact (List.perm_append_comm).cons _
  · intro x hx
    rcases List.mem_append.1 hx with hx | hx
    · exact h.t x hx
    · rw [List.mem_singleton.1 hx]; exact ht
  · have := h.s
    simp only [total, List.map_append, List.map_cons, List.map_nil, List.sum_append, List.sum_cons, List.sum_nil] at this ⊢
    omega
theorem Way.join {w0 : World} {ns : List Nd} {TS us vs : List Nf} {m i f p o n k : Nat} {ends : List Nat} {Q : Que} {ts : List Ex} (h : Way w0 ns TS m i ends ((f, us ++ vs, n + k + 1) :: Q) ts) (h1 : Up ns o us n) (h2 : Up ns p vs k) : Way w0 ns TS m (i + 1) (ends ++ [o] ++ [p]) (Q ++ [(o, us, n), (p, vs, k)]) ts := by
  have hl := (List.getElem?_eq_some_iff.1 h.at.1).1
  refine ⟨?_, ?_, ?_, ?_, h.t, ?_⟩
  · rw [List.append_assoc, List.drop_append_of_le_length (by omega), h.at.2, List.map_append]; rfl
  · simp only [List.length_append]; omega
  · intro q hq
    rcases List.mem_append.1 hq with hq | hq
    · exact h.u q (by simp [hq])
    · simp only [List.mem_cons, List.not_mem_nil, or_false] at hq
      rcases hq with rfl | rfl
      · exact h1
      · exact h2
  · have := h.p
    simp only [testsOf, List.flatMap_cons, List.flatMap_append, List.flatMap_nil, List.append_nil] at this ⊢
    refine List.Perm.trans ?_ this
    exact List.Perm.append_left _ List.perm_append_comm
  · have := h.s
    simp only [total, List.map_append, List.map_cons, List.map_nil, List.sum_append, List.sum_cons, List.sum_nil] at this ⊢
    omega
end Go.Proofs.D
