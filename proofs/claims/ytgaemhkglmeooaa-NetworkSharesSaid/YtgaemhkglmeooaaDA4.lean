/- A text of the proof of a statement about the given program: its part DA4. No person has read it. -/
import Derived.Test.YtgaemhkglmeooaaDA3
import Derived.Test.YtgaemhkglmeooaaDJ2
-- seat d
namespace Go.Proofs.D
open Go Go.Gp Go.RowKit

/-! What holds of all networks. -/
theorem nodeN_pre (ns : List Nd) (x : Nd) : ns <+: nodeN ns x := by
  rw [nodeN]
  split
  · exact List.prefix_refl _
  · exact List.prefix_append _ _
theorem pre_get {α : Type} {a b : List α} {i : Nat} {x : α} (h : a <+: b) (hi : a[i]? = some x) : b[i]? = some x := by
  obtain ⟨t, rfl⟩ := h
  rw [List.getElem?_append_left (List.getElem?_eq_some_iff.1 hi).1]
  exact hi
theorem nodeN_at (ns : List Nd) (x : Nd) : ∃ y, (nodeN ns x)[place ns x]? = some y ∧ key y = key x := by
  by_cases h : place ns x < ns.length
  · obtain ⟨y, h1, h2⟩ := place_key h
    exact ⟨y, by rw [nodeN_old h]; exact h1, h2⟩
  · have e : place ns x = ns.length := by have := place_le ns x; omega
    exact ⟨x, by rw [nodeN_new e, e]; simp, rfl⟩
theorem place_ne {ns : List Nd} {x : Nd} (h : place ns x = ns.length) : ∀ y ∈ ns, key y ≠ key x := by
  intro y hy
  rw [place, List.findIdx_eq_length] at h
  simpa using h y hy
/-- A node that is right, among those ahead of it. -/
structure UpOk (ns : List Nd) (i : Nat) (x : Nd) : Prop where
  go : ∃ p o : Nat, x.p = (p : Nat) ∧ x.o = (o : Nat) ∧ p < i ∧ o < i ∧ ∃ u s, ns[p]? = some u ∧ ns[o]? = some s ∧
    (x.k = 2 ∧ (u.k = 0 ∨ u.k = 2) ∧ x.o = 0 ∨ x.k = 3 ∧ (u.k = 1 ∨ u.k = 3) ∧ x.o = 0 ∨ x.k = 5 ∧ (u.k = 4 ∨ u.k = 5) ∧ x.o = 0 ∨ x.k = 4 ∧ (u.k = 0 ∨ u.k = 2) ∧ (s.k = 1 ∨ s.k = 3))
theorem UpOk.mono {ns ms : List Nd} {i : Nat} {x : Nd} (h : UpOk ns i x) (hp : ns <+: ms) : UpOk ms i x := by
  obtain ⟨p, o, h1, h2, h3, h4, u, s, h5, h6, h7⟩ := h.go
  exact ⟨p, o, h1, h2, h3, h4, u, s, pre_get hp h5, pre_get hp h6, h7⟩
structure Good (ns : List Nd) : Prop where
  z : ∃ a, ns[0]? = some a ∧ a.k = 0
  o : ∃ a, ns[1]? = some a ∧ a.k = 1
  diff : ∀ (i j : Nat) (x y : Nd), ns[i]? = some x → ns[j]? = some y → j < i → key x ≠ key y
  up : ∀ (i : Nat) (x : Nd), 2 ≤ i → ns[i]? = some x → UpOk ns i x
theorem Good.node {ns : List Nd} {x : Nd} (h : Good ns) (hx : UpOk ns ns.length x) : Good (nodeN ns x) := by
  by_cases hl : place ns x < ns.length
  · rw [nodeN_old hl]; exact h
  · have e : place ns x = ns.length := by have := place_le ns x; omega
    have hne := place_ne e
    have hp := nodeN_pre ns x
    rw [nodeN_new e] at hp ⊢
    obtain ⟨⟨a, a1, a2⟩, ⟨b, b1, b2⟩, hd, hu⟩ := h
    refine ⟨⟨a, pre_get hp a1, a2⟩, ⟨b, pre_get hp b1, b2⟩, ?_, ?_⟩
    · intro i j y z hi hj hji
      by_cases hin : i < ns.length
      · rw [List.getElem?_append_left hin] at hi
        rw [List.getElem?_append_left (by omega)] at hj
        exact hd i j y z hi hj hji
      · have : i = ns.length := by have := (List.getElem?_eq_some_iff.1 hi).1; simp at this; omega
        subst this
        rw [List.getElem?_append_left (by omega)] at hj
        simp at hi
        subst hi
        exact fun q => hne z (List.mem_of_getElem? hj) q.symm
    · intro i y hi2 hi
      by_cases hin : i < ns.length
      · rw [List.getElem?_append_left hin] at hi
        exact (hu i y hi2 hi).mono hp
      · have : i = ns.length := by have := (List.getElem?_eq_some_iff.1 hi).1; simp at this; omega
        subst this
        simp at hi
        subst hi
        exact hx.mono hp
/-- The tests from a node up, and how many nodes that takes. -/
inductive Up (ns : List Nd) : Nat → List Nf → Nat → Prop
  | root {i : Nat} {x : Nd} (h : ns[i]? = some x) (hk : x.k < 2) : Up ns i [] 1
  | test {i p : Nat} {x : Nd} {ts : List Nf} {n : Nat} (h : ns[i]? = some x) (hk : 2 ≤ x.k) (hk4 : x.k ≠ 4) (hp : x.p = (p : Nat)) (hpi : p < i) (ho : x.o = 0) (hu : Up ns p ts n) : Up ns i (enf x.t :: ts) (n + 1)
  | join {i p o : Nat} {x : Nd} {ts us : List Nf} {n m : Nat} (h : ns[i]? = some x) (hk : x.k = 4) (hp : x.p = (p : Nat)) (hpi : p < i) (ho : x.o = (o : Nat)) (hoi : o < i) (h1 : Up ns o ts n) (h2 : Up ns p us m) : Up ns i (ts ++ us) (n + m + 1)
theorem Up.mono {ns ms : List Nd} {i : Nat} {ts : List Nf} {n : Nat} (h : Up ns i ts n) (hp : ns <+: ms) : Up ms i ts n := by
  induction h with
  | root h hk => exact .root (pre_get hp h) hk
  | test h hk hk4 h1 h2 h3 _ ih => exact .test (pre_get hp h) hk hk4 h1 h2 h3 ih
  | join h hk h1 h2 h3 h4 _ _ ih1 ih2 => exact .join (pre_get hp h) hk h1 h2 h3 h4 ih1 ih2
/-- A row of nodes of a side, below one. -/
theorem row_good {side c : Int} (hs : side = 2 ∧ c = 0 ∨ side = 3 ∧ c = 1 ∨ side = 5 ∧ c = 4) : ∀ (l : List Ex) (ns : List Nd) (f : Nat) (u : Nd) (ts : List Nf) (n : Nat), Good ns → ns[f]? = some u → (u.k = c ∨ u.k = side) → Up ns f ts n →
    ∃ (f' : Nat) (u' : Nd), (rowN side (ns, (f : Nat)) l).2 = (f' : Nat) ∧ Good (rowN side (ns, (f : Nat)) l).1 ∧ ns <+: (rowN side (ns, (f : Nat)) l).1 ∧ (rowN side (ns, (f : Nat)) l).1[f']? = some u' ∧ (u'.k = c ∨ u'.k = side) ∧ Up (rowN side (ns, (f : Nat)) l).1 f' ((l.map enf).reverse ++ ts) (n + l.length)
  | [], ns, f, u, ts, n, hg, hu, hk, hup => ⟨f, u, rfl, hg, List.prefix_refl _, hu, hk, hup⟩
  | e :: l, ns, f, u, ts, n, hg, hu, hk, hup => by
    obtain ⟨a, a1, a2⟩ := hg.z
    have hfl := (List.getElem?_eq_some_iff.1 hu).1
    have hx : UpOk ns ns.length ⟨side, (f : Nat), 0, e⟩ := ⟨f, 0, rfl, rfl, hfl, by omega, u, a, hu, a1, by dsimp only; rcases hs with ⟨rfl, rfl⟩ | ⟨rfl, rfl⟩ | ⟨rfl, rfl⟩ <;> simp <;> omega⟩
    have hg2 := hg.node hx
    have hp := nodeN_pre ns ⟨side, (f : Nat), 0, e⟩
    obtain ⟨y, y1, y2⟩ := nodeN_at ns ⟨side, (f : Nat), 0, e⟩
    obtain ⟨k1, k2, k3, k4⟩ := key_iff.1 y2
    dsimp only at k1 k2 k3 k4
    have hfp : f < place ns ⟨side, (f : Nat), 0, e⟩ := by
      by_cases hl : place ns ⟨side, (f : Nat), 0, e⟩ < ns.length
      · rw [nodeN_old hl] at y1
        by_cases h2 : 2 ≤ place ns ⟨side, (f : Nat), 0, e⟩
        · obtain ⟨p, o, q1, q2, q3, q4, _⟩ := (hg.up _ y h2 y1).go
          omega
        · exfalso
          obtain ⟨b, b1, b2⟩ := hg.o
          have : place ns ⟨side, (f : Nat), 0, e⟩ = 0 ∨ place ns ⟨side, (f : Nat), 0, e⟩ = 1 := by omega
          rcases this with h0 | h0
          · rw [h0, a1] at y1
            cases y1
            omega
          · rw [h0, b1] at y1
            cases y1
            omega
      · have := place_le ns ⟨side, (f : Nat), 0, e⟩
        omega
    have hup2 : Up (nodeN ns ⟨side, (f : Nat), 0, e⟩) (place ns ⟨side, (f : Nat), 0, e⟩) (enf e :: ts) (n + 1) := by
      rw [← k4]
      exact .test y1 (by omega) (by omega) k2 hfp k3 (hup.mono hp)
    obtain ⟨f', u', r1, r2, r3, r4, r5, r6⟩ := row_good hs l _ _ y _ _ hg2 y1 (.inr k1) hup2
    have e1 : rowN side (ns, (f : Nat)) (e :: l) = rowN side (nodeN ns ⟨side, (f : Nat), 0, e⟩, (place ns ⟨side, (f : Nat), 0, e⟩ : Nat)) l := rfl
    rw [e1]
    refine ⟨f', u', r1, r2, hp.trans r3, r4, r5, ?_⟩
    rw [List.map_cons, List.reverse_cons, List.append_assoc, List.singleton_append, List.length_cons, show n + (l.length + 1) = n + 1 + l.length by omega]
    exact r6
/-- A rule's nodes. -/
theorem rule_good {ns : List Nd} (hg : Good ns) (l : List Ex) : ∃ f : Nat, (ruleN ns l).2 = (f : Nat) ∧ 2 ≤ f ∧ Good (ruleN ns l).1 ∧ ns <+: (ruleN ns l).1 ∧
    Up (ruleN ns l).1 f (((ofS l 5).map enf).reverse ++ (((ofS l 3).map enf).reverse ++ ((ofS l 2).map enf).reverse)) ((ofS l 5).length + (ofS l 3).length + (ofS l 2).length + 3) := by
  obtain ⟨a, a1, a2⟩ := hg.z
  obtain ⟨f1, u1, p1, p2, p3, p4, p5, p6⟩ := row_good (.inl ⟨rfl, rfl⟩) (ofS l 2) ns 0 a [] 1 hg a1 (.inl a2) (.root a1 (by omega))
  rw [show ((0 : Nat) : Int) = 0 from rfl, ← ruleA] at p1 p2 p3 p4 p6
  obtain ⟨b, b1, b2⟩ := p2.o
  obtain ⟨f2, u2, q1, q2, q3, q4, q5, q6⟩ := row_good (.inr (.inl ⟨rfl, rfl⟩)) (ofS l 3) (ruleA ns l).1 1 b [] 1 p2 b1 (.inl b2) (.root b1 (by omega))
  rw [show ((1 : Nat) : Int) = 1 from rfl, ← ruleB] at q1 q2 q3 q4 q6
  have h1 := (List.getElem?_eq_some_iff.1 q4).1
  have h2 := (List.getElem?_eq_some_iff.1 (pre_get q3 p4)).1
  have hj : UpOk (ruleB ns l).1 (ruleB ns l).1.length (ruleJ ns l) := ⟨f1, f2, p1, q1, h2, h1, u1, u2, pre_get q3 p4, q4, .inr (.inr (.inr ⟨rfl, p5, q5⟩))⟩
  have hg3 := q2.node hj
  have hpre := nodeN_pre (ruleB ns l).1 (ruleJ ns l)
  obtain ⟨y, y1, y2⟩ := nodeN_at (ruleB ns l).1 (ruleJ ns l)
  obtain ⟨k1, k2, k3, k4⟩ := key_iff.1 y2
  have k1 : y.k = 4 := k1
  have k2 : y.p = (f1 : Nat) := k2.trans p1
  have k3 : y.o = (f2 : Nat) := k3.trans q1
  have hlt : f1 < place (ruleB ns l).1 (ruleJ ns l) ∧ f2 < place (ruleB ns l).1 (ruleJ ns l) ∧ 2 ≤ place (ruleB ns l).1 (ruleJ ns l) := by
    have h2p : 2 ≤ place (ruleB ns l).1 (ruleJ ns l) := by
      by_cases h0 : 2 ≤ place (ruleB ns l).1 (ruleJ ns l)
      · exact h0
      · exfalso
        obtain ⟨a, a1, a2⟩ := hg3.z
        obtain ⟨b, b1, b2⟩ := hg3.o
        have : place (ruleB ns l).1 (ruleJ ns l) = 0 ∨ place (ruleB ns l).1 (ruleJ ns l) = 1 := by omega
        rcases this with h0 | h0
        · rw [h0, a1] at y1
          cases y1
          omega
        · rw [h0, b1] at y1
          cases y1
          omega
    obtain ⟨p, o, w1, w2, w3, w4, _⟩ := (hg3.up _ y h2p y1).go
    omega
  have hup : Up (ruleC ns l).1 (place (ruleB ns l).1 (ruleJ ns l)) _ _ := .join y1 k1 k2 hlt.1 k3 hlt.2.1 (q6.mono hpre) ((p6.mono q3).mono hpre)
  obtain ⟨f4, u4, r1, r2, r3, r4, r5, r6⟩ := row_good (.inr (.inr ⟨rfl, rfl⟩)) (ofS l 5) (ruleC ns l).1 _ y _ _ hg3 y1 (.inl k1) hup
  rw [show ((ruleC ns l).1, ((place (ruleB ns l).1 (ruleJ ns l) : Nat) : Int)) = ruleC ns l from rfl, ← ruleN] at r1 r2 r3 r4 r6
  refine ⟨f4, r1, ?_, r2, ((p3.trans q3).trans hpre).trans r3, ?_⟩
  · by_cases h0 : 2 ≤ f4
    · exact h0
    · exfalso
      obtain ⟨a, a1, a2⟩ := r2.z
      obtain ⟨b, b1, b2⟩ := r2.o
      have : f4 = 0 ∨ f4 = 1 := by omega
      rcases this with h0 | h0
      · rw [h0, a1] at r4
        cases r4
        omega
      · rw [h0, b1] at r4
        cases r4
        omega
  · rw [List.append_nil, List.append_nil, show 1 + (ofS l 3).length + (1 + (ofS l 2).length) + 1 + (ofS l 5).length = (ofS l 5).length + (ofS l 3).length + (ofS l 2).length + 3 by omega] at r6
    exact r6
end Go.Proofs.D

-- seat d
namespace Go.Proofs.D
open Go Go.Gp Go.RowKit

theorem net0_good : Good [⟨0, 0, 0, zeroE⟩, ⟨1, 0, 0, zeroE⟩] := by
  refine ⟨⟨_, rfl, rfl⟩, ⟨_, rfl, rfl⟩, ?_, ?_⟩
  · intro i j x y hi hj hji
    match i, j with
    | 0, _ => omega
    | 1, 0 =>
      simp at hi hj
      subst hi hj
      simp [key]
    | 1, j + 1 => omega
    | i + 2, _ => simp at hi
  · intro i x hi2 hi
    match i with
    | 0 => omega
    | 1 => omega
    | i + 2 => simp at hi
theorem netN_good (d : Dc) : Good (netN d).1 := by
  refine netN_ind (Q := fun n => Good n.1) net0_good ?_
  intro n i k p r hn _ _
  obtain ⟨f, _, _, h, _⟩ := rule_good hn (all p r)
  exact h
set_option maxHeartbeats 4000000 in
theorem NetworkShares_ok {w0 : World} {d : Dc} (h : DcOk w0 d) (hfn : d.fn ≤ maxLen) : FnO Try.prog w0 5 [.agg (dcl d).toArray] [] (fun v _ => v = .bool true) := by
  have fd := fun (G : List HProp) => fewDoc_ok (F := G) h hfn
  refine FnO.intro (n := 203) Try.func5 rfl rfl rfl ?_
  refine J.seq ?_
  refine J.region ?_
  refine JL.mem rfl rfl (OpM.box rfl rfl) ?_; rintro _ _ ⟨b1, rfl, rfl⟩
  refine JL.pure rfl rfl (OpP.assign rfl) ?_
  refine JL.nil ?_
  refine J.seq ?_
  refine J.seq ?_
  refine J.region ?_
  refine JL.step rfl rfl (OpW.call (first := []) (captured := []) inferInstance rfl rfl awake_ok) ?_; rintro r10 _ ⟨rfl, rfl⟩
  refine JL.pure rfl rfl (OpP.notB rfl) ?_
  refine JL.pure rfl rfl (OpP.move rfl) ?_
  refine JL.read rfl rfl (OpR.loadN rfl (Cells.full .head) rfl) ?_
  refine JL.step rfl rfl (OpW.call (first := []) (captured := []) inferInstance rfl rfl (fd _)) ?_; rintro r14 _ ⟨b, ⟨rfl, ⟨rfl, h14⟩⟩⟩
  refine JL.pure rfl rfl (OpP.notB rfl) ?_
  refine JL.pure rfl rfl (OpP.pickF rfl rfl) ?_
  refine JL.nil ?_
  refine J.splitAt 16 rfl (fun h16 => ?_) (fun h16 => ?_)
  focus
    refine J.condT rfl ?_
    refine J.seq ?_
    refine J.region ?_
    refine JL.step rfl rfl (OpW.call (first := []) (captured := []) inferInstance rfl rfl awake_ok) ?_; rintro r17 _ ⟨rfl, rfl⟩
    refine JL.pure rfl rfl (OpP.assign rfl) ?_
    refine JL.nil ?_
    refine J.ret1 rfl rfl ?_
  rotate_left 1
  focus
    refine J.condF rfl ?_
    refine J.skip ?_
  rotate_left 1
  · rfl
  have ht : DcT w0 d := h14 (by simpa using h16)
  have hl1 := (netN_ok ht).l1
  have htr := (netN_ok ht).t
  have hg := netN_good d
  have c1 := fun (G : List HProp) => compile_ok (F := G) ht
  refine J.seq ?_
  refine J.region ?_
  refine JL.read rfl rfl (OpR.loadN rfl (Cells.full .head) rfl) ?_
  refine JL.step rfl rfl (OpW.call (first := []) (captured := []) inferInstance rfl rfl (c1 _)) ?_; rintro r19 _ ⟨a, ⟨c, ⟨pa, ⟨pc, ⟨ps, ⟨h19, ⟨rfl, rfl⟩⟩⟩⟩⟩⟩⟩
  refine JL.pure rfl rfl (OpP.field1 rfl rfl) ?_
  refine JL.pure rfl rfl (OpP.assign rfl) ?_
  refine JL.nil ?_
  refine J.seq ?_
  generalize (netN d).1 = ns at *
  have hlen : ∀ p ∈ ns, (ncl p).length = 11 := fun _ _ => rfl
  obtain ⟨⟨z0, z1, z2⟩, ⟨y0, y1, y2⟩, hdf, hup⟩ := hg
  refine J.ownSome .head (by omega) fun ga oa ea ka => ?_
  subst ea
  have hcs : Cells w0 [own 45 11 (.slice (some ⟨ga, oa, none⟩) ns.length c) ns.length (ns.flatMap ncl)] ga oa (ns.flatMap ncl) := Cells.own .head
  refine J.seq ?_
  refine J.region ?_
  refine JL.pure rfl rfl (OpP.assign rfl) ?_
  refine JL.nil ?_
  refine J.block ?_
  refine J.loopI (fun i : Nat => ns.length - i) (fun i => i ≤ ns.length) (fun i => [(4, .int .i64 (i : Nat)), (3, .slice (some ⟨ga, oa, none⟩) ns.length c)])
    (fun _ => [own 45 11 (.slice (some ⟨ga, oa, none⟩) ns.length c) ns.length (ns.flatMap ncl)]) 0 (Nat.zero_le _) (by repeat (first | exact SubEnv.nil | refine SubEnv.cons (by first | rfl | exact congrArg (fun z => some (Value.int .i64 z)) (by omega) | (simp; done)) ?_)) (fun _ h => Own.pick (pre := [_, _, _, _]) (F := []) [0] rfl h) (fun i hi back => ?_)
  by_cases hlt : i < ns.length
  · obtain ⟨x, hxi⟩ : ∃ p, ns[i]? = some p := ⟨_, List.getElem?_eq_getElem hlt⟩
    have tx := htr x (List.mem_of_getElem? hxi)
    refine J.seq ?_
    refine J.seq ?_
    refine J.region ?_
    refine JL.pure rfl rfl (OpP.move rfl) ?_
    refine JL.pure rfl rfl (OpP.move rfl) ?_
    refine JL.pure rfl rfl (OpP.len rfl rfl) ?_
    refine JL.decT rfl rfl (OpP.lss rfl rfl) (by omega) ?_
    refine JL.nil ?_
    refine J.condT rfl ?_
    refine J.skip ?_
    refine J.seq ?_
    refine J.block ?_
    refine J.seq ?_
    refine J.seq ?_
    refine J.region ?_
    refine JL.pure rfl rfl (OpP.assign rfl) ?_
    refine JL.nil ?_
    refine J.block ?_
    refine J.loopI (fun k : Nat => i - k) (fun k => k ≤ i) (fun k => [(5, .int .i64 (k : Nat)), (4, .int .i64 (i : Nat)), (3, .slice (some ⟨ga, oa, none⟩) ns.length c)])
      (fun _ => [own 45 11 (.slice (some ⟨ga, oa, none⟩) ns.length c) ns.length (ns.flatMap ncl)]) 0 (Nat.zero_le _) (by repeat (first | exact SubEnv.nil | refine SubEnv.cons (by first | rfl | exact congrArg (fun z => some (Value.int .i64 z)) (by omega) | (simp; done)) ?_)) (fun _ h => h) (fun k hk back2 => ?_)
    by_cases hlt2 : k < i
    · obtain ⟨y, hyk⟩ : ∃ p, ns[k]? = some p := ⟨_, List.getElem?_eq_getElem (by omega)⟩
      have ty := htr y (List.mem_of_getElem? hyk)
      have hne := hdf i k x y hxi hyk hlt2
      have se := fun (G : List HProp) => sameExpr_ok (F := G) tx ty
      clear back hdf hup
      refine J.seq ?_
      refine J.seq ?_
      refine J.region ?_
      refine JL.pure rfl rfl (OpP.move rfl) ?_
      refine JL.pure rfl rfl (OpP.move rfl) ?_
      refine JL.decT rfl rfl (OpP.lss rfl rfl) (by omega) ?_
      refine JL.nil ?_
      refine J.condT rfl ?_
      refine J.skip ?_
      refine J.seq ?_
      refine J.block ?_
      refine J.seq ?_
      refine J.regionD [4, 9, 16, 21, 29, 34, 42, 47] (by kernel_rfl) ?_
      refine DL.pure (i := 0) (by kernel_rfl) (by kernel_rfl) rfl rfl rfl (OpP.move rfl) ?_
      refine DL.pure (i := 1) (by kernel_rfl) (by kernel_rfl) rfl rfl rfl (OpP.move rfl) ?_
      refine DL.pure (i := 2) (by kernel_rfl) (by kernel_rfl) rfl rfl rfl (OpP.indexAddr rfl rfl (by omega) (by omega)) ?_
      refine DL.pure (i := 3) (by kernel_rfl) (by kernel_rfl) rfl rfl rfl (OpP.fieldAddr rfl) ?_
      refine DL.read (i := 4) (by kernel_rfl) (by kernel_rfl) rfl rfl rfl (fun _ h => h) (OpR.load1 rfl (by apply Cells.cellChunk (j := 0) hcs (fun _ h => h); (case' h => assumption); (case' hi => exact hxi); (case' hv => rfl); (case' ho => omega); done)) ?_
      refine DL.pure (i := 5) (by kernel_rfl) (by kernel_rfl) rfl rfl rfl (OpP.move rfl) ?_
      refine DL.pure (i := 6) (by kernel_rfl) (by kernel_rfl) rfl rfl rfl (OpP.move rfl) ?_
      refine DL.pure (i := 7) (by kernel_rfl) (by kernel_rfl) rfl rfl rfl (OpP.indexAddr rfl rfl (by omega) (by omega)) ?_
      refine DL.pure (i := 8) (by kernel_rfl) (by kernel_rfl) rfl rfl rfl (OpP.fieldAddr rfl) ?_
      refine DL.read (i := 9) (by kernel_rfl) (by kernel_rfl) rfl rfl rfl (fun _ h => h) (OpR.load1 rfl (by apply Cells.cellChunk (j := 0) (Cells.own .head) (fun _ h => h); (case' h => assumption); (case' hi => assumption); (case' hv => rfl); (case' ho => omega); done)) ?_
      refine DL.dec (i := 10) (by kernel_rfl) (by kernel_rfl) rfl rfl rfl (OpP.eql rfl rfl) (fun h42 => ?_) (fun h42 => ?_)
      focus
        refine DL.pure (i := 11) (by kernel_rfl) (by kernel_rfl) rfl rfl rfl (OpP.move rfl) ?_
        refine DL.pure (i := 12) (by kernel_rfl) (by kernel_rfl) rfl rfl rfl (OpP.move rfl) ?_
        refine DL.pure (i := 13) (by kernel_rfl) (by kernel_rfl) rfl rfl rfl (OpP.move rfl) ?_
        refine DL.pure (i := 14) (by kernel_rfl) (by kernel_rfl) rfl rfl rfl (OpP.indexAddr rfl rfl (by omega) (by omega)) ?_
        refine DL.pure (i := 15) (by kernel_rfl) (by kernel_rfl) rfl rfl rfl (OpP.fieldAddr rfl) ?_
        refine DL.read (i := 16) (by kernel_rfl) (by kernel_rfl) rfl rfl rfl (fun _ h => h) (OpR.load1 rfl (by apply Cells.cellChunk (j := 1) hcs (fun _ h => h); (case' h => assumption); (case' hi => exact hxi); (case' hv => rfl); (case' ho => omega); done)) ?_
        refine DL.pure (i := 17) (by kernel_rfl) (by kernel_rfl) rfl rfl rfl (OpP.move rfl) ?_
        refine DL.pure (i := 18) (by kernel_rfl) (by kernel_rfl) rfl rfl rfl (OpP.move rfl) ?_
        refine DL.pure (i := 19) (by kernel_rfl) (by kernel_rfl) rfl rfl rfl (OpP.indexAddr rfl rfl (by omega) (by omega)) ?_
        refine DL.pure (i := 20) (by kernel_rfl) (by kernel_rfl) rfl rfl rfl (OpP.fieldAddr rfl) ?_
        refine DL.read (i := 21) (by kernel_rfl) (by kernel_rfl) rfl rfl rfl (fun _ h => h) (OpR.load1 rfl (by apply Cells.cellChunk (j := 1) (Cells.own .head) (fun _ h => h); (case' h => assumption); (case' hi => assumption); (case' hv => rfl); (case' ho => omega); done)) ?_
        refine DL.dec (i := 22) (by kernel_rfl) (by kernel_rfl) rfl rfl rfl (OpP.eql rfl rfl) (fun h54 => ?_) (fun h54 => ?_)
        focus
          refine DL.pure (i := 23) (by kernel_rfl) (by kernel_rfl) rfl rfl rfl (OpP.pickT rfl rfl) ?_
          refine DL.pure (i := 24) (by kernel_rfl) (by kernel_rfl) rfl rfl rfl (OpP.move rfl) ?_
          refine DL.pure (i := 25) (by kernel_rfl) (by kernel_rfl) rfl rfl rfl (OpP.move rfl) ?_
          refine DL.pure (i := 26) (by kernel_rfl) (by kernel_rfl) rfl rfl rfl (OpP.move rfl) ?_
          refine DL.pure (i := 27) (by kernel_rfl) (by kernel_rfl) rfl rfl rfl (OpP.indexAddr rfl rfl (by omega) (by omega)) ?_
          refine DL.pure (i := 28) (by kernel_rfl) (by kernel_rfl) rfl rfl rfl (OpP.fieldAddr rfl) ?_
          refine DL.read (i := 29) (by kernel_rfl) (by kernel_rfl) rfl rfl rfl (fun _ h => h) (OpR.load1 rfl (by apply Cells.cellChunk (j := 2) hcs (fun _ h => h); (case' h => assumption); (case' hi => exact hxi); (case' hv => rfl); (case' ho => omega); done)) ?_
          refine DL.pure (i := 30) (by kernel_rfl) (by kernel_rfl) rfl rfl rfl (OpP.move rfl) ?_
          refine DL.pure (i := 31) (by kernel_rfl) (by kernel_rfl) rfl rfl rfl (OpP.move rfl) ?_
          refine DL.pure (i := 32) (by kernel_rfl) (by kernel_rfl) rfl rfl rfl (OpP.indexAddr rfl rfl (by omega) (by omega)) ?_
          refine DL.pure (i := 33) (by kernel_rfl) (by kernel_rfl) rfl rfl rfl (OpP.fieldAddr rfl) ?_
          refine DL.read (i := 34) (by kernel_rfl) (by kernel_rfl) rfl rfl rfl (fun _ h => h) (OpR.load1 rfl (by apply Cells.cellChunk (j := 2) (Cells.own .head) (fun _ h => h); (case' h => assumption); (case' hi => assumption); (case' hv => rfl); (case' ho => omega); done)) ?_
          refine DL.dec (i := 35) (by kernel_rfl) (by kernel_rfl) rfl rfl rfl (OpP.eql rfl rfl) (fun h67 => ?_) (fun h67 => ?_)
          focus
            refine DL.pure (i := 36) (by kernel_rfl) (by kernel_rfl) rfl rfl rfl (OpP.pickT rfl rfl) ?_
            refine DL.pure (i := 37) (by kernel_rfl) (by kernel_rfl) rfl rfl rfl (OpP.move rfl) ?_
            refine DL.pure (i := 38) (by kernel_rfl) (by kernel_rfl) rfl rfl rfl (OpP.move rfl) ?_
            refine DL.pure (i := 39) (by kernel_rfl) (by kernel_rfl) rfl rfl rfl (OpP.move rfl) ?_
            refine DL.pure (i := 40) (by kernel_rfl) (by kernel_rfl) rfl rfl rfl (OpP.indexAddr rfl rfl (by omega) (by omega)) ?_
            refine DL.pure (i := 41) (by kernel_rfl) (by kernel_rfl) rfl rfl rfl (OpP.fieldAddr rfl) ?_
            refine DL.read (i := 42) (by kernel_rfl) (by kernel_rfl) rfl rfl rfl (fun _ h => h) (OpR.loadN rfl (by apply Cells.chunkSub (j := 3) (m := 8) hcs (fun _ h => h); (case' h => assumption); (case' hi => exact hxi); (case' hv => rfl); (case' ho => omega); done) (by rfl)) ?_
            refine DL.pure (i := 43) (by kernel_rfl) (by kernel_rfl) rfl rfl rfl (OpP.move rfl) ?_
            refine DL.pure (i := 44) (by kernel_rfl) (by kernel_rfl) rfl rfl rfl (OpP.move rfl) ?_
            refine DL.pure (i := 45) (by kernel_rfl) (by kernel_rfl) rfl rfl rfl (OpP.indexAddr rfl rfl (by omega) (by omega)) ?_
            refine DL.pure (i := 46) (by kernel_rfl) (by kernel_rfl) rfl rfl rfl (OpP.fieldAddr rfl) ?_
            refine DL.read (i := 47) (by kernel_rfl) (by kernel_rfl) rfl rfl rfl (fun _ h => h) (OpR.loadN rfl (by apply Cells.chunkSub (j := 3) (m := 8) (Cells.own .head) (fun _ h => h); (case' h => assumption); (case' hi => assumption); (case' hv => rfl); (case' ho => omega); done) (by rfl)) ?_
            refine DL.only (i := 48) (by kernel_rfl) ?_
            refine DL1.stepF rfl rfl rfl (by kernel_rfl) (by exact OpW.call (first := []) (captured := []) inferInstance rfl rfl (se _)) ?_; rintro r80 _ ⟨b2, ⟨rfl, ⟨rfl, h80⟩⟩⟩
            refine DL.pure (i := 49) (by kernel_rfl) (by kernel_rfl) rfl rfl rfl (OpP.pickT rfl rfl) ?_
            refine DL.done (by kernel_rfl) ?_
            refine J.splitAt 81 rfl (fun h81 => ?_) (fun h81 => ?_)
            focus
              refine J.condT rfl ?_
              refine J.seq ?_
              refine J.region ?_
              refine JL.pure rfl rfl (OpP.assign rfl) ?_
              refine JL.nil ?_
              refine J.ret1 rfl rfl ?_
            rotate_left 1
            focus
              refine J.condF rfl ?_
              refine J.skip ?_
              refine J.inBlock ?_
              refine J.region ?_
              refine JL.pure rfl rfl (OpP.move rfl) ?_
              refine JL.pure rfl rfl (OpP.addI rfl rfl (by omega) (by omega)) ?_
              refine JL.pure rfl rfl (OpP.assign rfl) ?_
              refine JL.nil ?_
            rotate_left 1
          rotate_left 2
          focus
            refine DL.pure (i := 36) (by kernel_rfl) (by kernel_rfl) rfl rfl rfl (OpP.pickT rfl rfl) ?_
            refine DL.pure (i := 37) (by kernel_rfl) (by kernel_rfl) rfl rfl rfl (OpP.move rfl) ?_
            refine DL.skip (i := 38) (by kernel_rfl) (by kernel_rfl) rfl rfl rfl ?_
            refine DL.skip (i := 39) (by kernel_rfl) (by kernel_rfl) rfl rfl rfl ?_
            refine DL.skip (i := 40) (by kernel_rfl) (by kernel_rfl) rfl rfl rfl ?_
            refine DL.skip (i := 41) (by kernel_rfl) (by kernel_rfl) rfl rfl rfl ?_
            refine DL.skip (i := 42) (by kernel_rfl) (by kernel_rfl) rfl rfl rfl ?_
            refine DL.skip (i := 43) (by kernel_rfl) (by kernel_rfl) rfl rfl rfl ?_
            refine DL.skip (i := 44) (by kernel_rfl) (by kernel_rfl) rfl rfl rfl ?_
            refine DL.skip (i := 45) (by kernel_rfl) (by kernel_rfl) rfl rfl rfl ?_
            refine DL.skip (i := 46) (by kernel_rfl) (by kernel_rfl) rfl rfl rfl ?_
            refine DL.skip (i := 47) (by kernel_rfl) (by kernel_rfl) rfl rfl rfl ?_
            refine DL.skip (i := 48) (by kernel_rfl) (by kernel_rfl) rfl rfl rfl ?_
            refine DL.pure (i := 49) (by kernel_rfl) (by kernel_rfl) rfl rfl rfl (OpP.pickF rfl rfl) ?_
            refine DL.done (by kernel_rfl) ?_
            refine J.condF rfl ?_
            refine J.skip ?_
            refine J.inBlock ?_
            refine J.region ?_
            refine JL.pure rfl rfl (OpP.move rfl) ?_
            refine JL.pure rfl rfl (OpP.addI rfl rfl (by omega) (by omega)) ?_
            refine JL.pure rfl rfl (OpP.assign rfl) ?_
            refine JL.nil ?_
          rotate_left 1
        rotate_left 3
        focus
          refine DL.pure (i := 23) (by kernel_rfl) (by kernel_rfl) rfl rfl rfl (OpP.pickT rfl rfl) ?_
          refine DL.pure (i := 24) (by kernel_rfl) (by kernel_rfl) rfl rfl rfl (OpP.move rfl) ?_
          refine DL.skip (i := 25) (by kernel_rfl) (by kernel_rfl) rfl rfl rfl ?_
          refine DL.skip (i := 26) (by kernel_rfl) (by kernel_rfl) rfl rfl rfl ?_
          refine DL.skip (i := 27) (by kernel_rfl) (by kernel_rfl) rfl rfl rfl ?_
          refine DL.skip (i := 28) (by kernel_rfl) (by kernel_rfl) rfl rfl rfl ?_
          refine DL.skip (i := 29) (by kernel_rfl) (by kernel_rfl) rfl rfl rfl ?_
          refine DL.skip (i := 30) (by kernel_rfl) (by kernel_rfl) rfl rfl rfl ?_
          refine DL.skip (i := 31) (by kernel_rfl) (by kernel_rfl) rfl rfl rfl ?_
          refine DL.skip (i := 32) (by kernel_rfl) (by kernel_rfl) rfl rfl rfl ?_
          refine DL.skip (i := 33) (by kernel_rfl) (by kernel_rfl) rfl rfl rfl ?_
          refine DL.skip (i := 34) (by kernel_rfl) (by kernel_rfl) rfl rfl rfl ?_
          refine DL.skip (i := 35) (by kernel_rfl) (by kernel_rfl) rfl rfl rfl ?_
          refine DL.pure (i := 36) (by kernel_rfl) (by kernel_rfl) rfl rfl rfl (OpP.pickF rfl rfl) ?_
          refine DL.pure (i := 37) (by kernel_rfl) (by kernel_rfl) rfl rfl rfl (OpP.move rfl) ?_
          refine DL.skip (i := 38) (by kernel_rfl) (by kernel_rfl) rfl rfl rfl ?_
          refine DL.skip (i := 39) (by kernel_rfl) (by kernel_rfl) rfl rfl rfl ?_
          refine DL.skip (i := 40) (by kernel_rfl) (by kernel_rfl) rfl rfl rfl ?_
          refine DL.skip (i := 41) (by kernel_rfl) (by kernel_rfl) rfl rfl rfl ?_
          refine DL.skip (i := 42) (by kernel_rfl) (by kernel_rfl) rfl rfl rfl ?_
          refine DL.skip (i := 43) (by kernel_rfl) (by kernel_rfl) rfl rfl rfl ?_
          refine DL.skip (i := 44) (by kernel_rfl) (by kernel_rfl) rfl rfl rfl ?_
          refine DL.skip (i := 45) (by kernel_rfl) (by kernel_rfl) rfl rfl rfl ?_
          refine DL.skip (i := 46) (by kernel_rfl) (by kernel_rfl) rfl rfl rfl ?_
          refine DL.skip (i := 47) (by kernel_rfl) (by kernel_rfl) rfl rfl rfl ?_
          refine DL.skip (i := 48) (by kernel_rfl) (by kernel_rfl) rfl rfl rfl ?_
          refine DL.pure (i := 49) (by kernel_rfl) (by kernel_rfl) rfl rfl rfl (OpP.pickF rfl rfl) ?_
          refine DL.done (by kernel_rfl) ?_
          refine J.condF rfl ?_
          refine J.skip ?_
          refine J.inBlock ?_
          refine J.region ?_
          refine JL.pure rfl rfl (OpP.move rfl) ?_
          refine JL.pure rfl rfl (OpP.addI rfl rfl (by omega) (by omega)) ?_
          refine JL.pure rfl rfl (OpP.assign rfl) ?_
          refine JL.nil ?_
        rotate_left 1
      rotate_left 4
      focus
        refine DL.pure (i := 11) (by kernel_rfl) (by kernel_rfl) rfl rfl rfl (OpP.move rfl) ?_
        refine DL.skip (i := 12) (by kernel_rfl) (by kernel_rfl) rfl rfl rfl ?_
        refine DL.skip (i := 13) (by kernel_rfl) (by kernel_rfl) rfl rfl rfl ?_
        refine DL.skip (i := 14) (by kernel_rfl) (by kernel_rfl) rfl rfl rfl ?_
        refine DL.skip (i := 15) (by kernel_rfl) (by kernel_rfl) rfl rfl rfl ?_
        refine DL.skip (i := 16) (by kernel_rfl) (by kernel_rfl) rfl rfl rfl ?_
        refine DL.skip (i := 17) (by kernel_rfl) (by kernel_rfl) rfl rfl rfl ?_
        refine DL.skip (i := 18) (by kernel_rfl) (by kernel_rfl) rfl rfl rfl ?_
        refine DL.skip (i := 19) (by kernel_rfl) (by kernel_rfl) rfl rfl rfl ?_
        refine DL.skip (i := 20) (by kernel_rfl) (by kernel_rfl) rfl rfl rfl ?_
        refine DL.skip (i := 21) (by kernel_rfl) (by kernel_rfl) rfl rfl rfl ?_
        refine DL.skip (i := 22) (by kernel_rfl) (by kernel_rfl) rfl rfl rfl ?_
        refine DL.pure (i := 23) (by kernel_rfl) (by kernel_rfl) rfl rfl rfl (OpP.pickF rfl rfl) ?_
        refine DL.pure (i := 24) (by kernel_rfl) (by kernel_rfl) rfl rfl rfl (OpP.move rfl) ?_
        refine DL.skip (i := 25) (by kernel_rfl) (by kernel_rfl) rfl rfl rfl ?_
        refine DL.skip (i := 26) (by kernel_rfl) (by kernel_rfl) rfl rfl rfl ?_
        refine DL.skip (i := 27) (by kernel_rfl) (by kernel_rfl) rfl rfl rfl ?_
        refine DL.skip (i := 28) (by kernel_rfl) (by kernel_rfl) rfl rfl rfl ?_
        refine DL.skip (i := 29) (by kernel_rfl) (by kernel_rfl) rfl rfl rfl ?_
        refine DL.skip (i := 30) (by kernel_rfl) (by kernel_rfl) rfl rfl rfl ?_
        refine DL.skip (i := 31) (by kernel_rfl) (by kernel_rfl) rfl rfl rfl ?_
        refine DL.skip (i := 32) (by kernel_rfl) (by kernel_rfl) rfl rfl rfl ?_
        refine DL.skip (i := 33) (by kernel_rfl) (by kernel_rfl) rfl rfl rfl ?_
        refine DL.skip (i := 34) (by kernel_rfl) (by kernel_rfl) rfl rfl rfl ?_
        refine DL.skip (i := 35) (by kernel_rfl) (by kernel_rfl) rfl rfl rfl ?_
        refine DL.pure (i := 36) (by kernel_rfl) (by kernel_rfl) rfl rfl rfl (OpP.pickF rfl rfl) ?_
        refine DL.pure (i := 37) (by kernel_rfl) (by kernel_rfl) rfl rfl rfl (OpP.move rfl) ?_
        refine DL.skip (i := 38) (by kernel_rfl) (by kernel_rfl) rfl rfl rfl ?_
        refine DL.skip (i := 39) (by kernel_rfl) (by kernel_rfl) rfl rfl rfl ?_
        refine DL.skip (i := 40) (by kernel_rfl) (by kernel_rfl) rfl rfl rfl ?_
        refine DL.skip (i := 41) (by kernel_rfl) (by kernel_rfl) rfl rfl rfl ?_
        refine DL.skip (i := 42) (by kernel_rfl) (by kernel_rfl) rfl rfl rfl ?_
        refine DL.skip (i := 43) (by kernel_rfl) (by kernel_rfl) rfl rfl rfl ?_
        refine DL.skip (i := 44) (by kernel_rfl) (by kernel_rfl) rfl rfl rfl ?_
        refine DL.skip (i := 45) (by kernel_rfl) (by kernel_rfl) rfl rfl rfl ?_
        refine DL.skip (i := 46) (by kernel_rfl) (by kernel_rfl) rfl rfl rfl ?_
        refine DL.skip (i := 47) (by kernel_rfl) (by kernel_rfl) rfl rfl rfl ?_
        refine DL.skip (i := 48) (by kernel_rfl) (by kernel_rfl) rfl rfl rfl ?_
        refine DL.pure (i := 49) (by kernel_rfl) (by kernel_rfl) rfl rfl rfl (OpP.pickF rfl rfl) ?_
        refine DL.done (by kernel_rfl) ?_
        refine J.condF rfl ?_
        refine J.skip ?_
        refine J.inBlock ?_
        refine J.region ?_
        refine JL.pure rfl rfl (OpP.move rfl) ?_
        refine JL.pure rfl rfl (OpP.addI rfl rfl (by omega) (by omega)) ?_
        refine JL.pure rfl rfl (OpP.assign rfl) ?_
        refine JL.nil ?_
      rotate_left 1
      · exact absurd (key_iff.2 (by simp_all)) hne
      all_goals exact back2 (k + 1) (by omega) (by omega) (by repeat (first | exact SubEnv.nil | refine SubEnv.cons (by first | rfl | exact congrArg (fun z => some (Value.int .i64 z)) (by omega) | (simp; done)) ?_)) (fun _ h => h)
    · have : k = i := by omega
      subst this
      refine J.seq ?_
      refine J.seq ?_
      refine J.region ?_
      refine JL.pure rfl rfl (OpP.move rfl) ?_
      refine JL.pure rfl rfl (OpP.move rfl) ?_
      refine JL.decF rfl rfl (OpP.lss rfl rfl) (by omega) ?_
      refine JL.nil ?_
      refine J.condF rfl ?_
      refine J.exit rfl ?_
      refine J.seq ?_
      refine J.seq ?_
      refine J.region ?_
      refine JL.pure rfl rfl (OpP.move rfl) ?_
      refine JL.dec rfl rfl (OpP.lss rfl rfl) (fun h83 => ?_) (fun h83 => ?_)
      focus
        refine JL.nil ?_
        refine J.condT rfl ?_
        refine J.exit rfl ?_
        refine J.region ?_
        refine JL.pure rfl rfl (OpP.move rfl) ?_
        refine JL.pure rfl rfl (OpP.addI rfl rfl (by omega) (by omega)) ?_
        refine JL.pure rfl rfl (OpP.assign rfl) ?_
        refine JL.nil ?_
      rotate_left 1
      focus
        refine JL.nil ?_
        refine J.condF rfl ?_
        refine J.skip ?_
      rotate_left 1
      · exact back (k + 1) (by omega) (by omega) (by repeat (first | exact SubEnv.nil | refine SubEnv.cons (by first | rfl | exact congrArg (fun z => some (Value.int .i64 z)) (by omega) | (simp; done)) ?_)) (fun _ h => h)
      obtain ⟨p, o, hp, ho, hpi, hoi, u, s, hu, hs, hk⟩ := (hup k x (by omega) hxi).go
      obtain ⟨xk, xp, xo, xt⟩ := x
      dsimp only at hp ho hk
      subst hp ho
      clear hdf hup
      refine J.seq ?_
      refine J.region ?_
      refine JL.pure rfl rfl (OpP.move rfl) ?_
      refine JL.pure rfl rfl (OpP.move rfl) ?_
      refine JL.pure rfl rfl (OpP.indexAddr rfl rfl (by omega) (by omega)) ?_
      refine JL.read rfl rfl (OpR.loadN rfl (by apply Cells.chunkAt (Cells.own .head); (case' h => assumption); (case' hi => assumption); done) (by first | rfl | assumption)) ?_
      refine JL.mem rfl rfl OpM.alloc ?_; rintro _ _ ⟨b6, rfl, rfl⟩
      refine JL.mem0 rfl (by apply OpM.storeN rfl rfl (by rfl) (oneC rfl (oneC rfl (oneC rfl (oneC rfl (oneC rfl (oneC rfl (oneC rfl (oneC rfl (oneC rfl (oneC rfl (one1 rfl))))))))))); (case' hu => exact .head); (case' hs => exact (.here (.here (.here (.here (.here (.here (.here (.here (.here (.here (.here .nil)))))))))))); done) ?_; rintro _ _ ⟨rfl, rfl⟩
      refine JL.nil ?_
      refine J.seq ?_
      refine J.conv (l' := [row b6 45 (n11 xk (p : Nat) (o : Nat) xt), own 45 11 (.slice (some ⟨ga, oa, none⟩) ns.length c) ns.length (ns.flatMap ncl)]) (fun _ h => h) ?_
      refine J.seq ?_
      refine J.region ?_
      refine JL.pure rfl rfl (OpP.fieldAddr rfl) ?_
      refine JL.read rfl rfl (OpR.load1 rfl (Cell.row .head rfl)) ?_
      refine JL.decF rfl rfl (OpP.lss rfl rfl) (by omega) ?_
      refine JL.pure rfl rfl (OpP.move rfl) ?_
      refine JL.pure rfl rfl (OpP.fieldAddr rfl) ?_
      refine JL.read rfl rfl (OpR.load1 rfl (Cell.row .head rfl)) ?_
      refine JL.pure rfl rfl (OpP.move rfl) ?_
      refine JL.decF rfl rfl (OpP.geq rfl rfl) (by omega) ?_
      refine JL.pure rfl rfl (OpP.pickF rfl rfl) ?_
      refine JL.pure rfl rfl (OpP.move rfl) ?_
      refine JL.pure rfl rfl (OpP.fieldAddr rfl) ?_
      refine JL.read rfl rfl (OpR.load1 rfl (Cell.row .head rfl)) ?_
      refine JL.decF rfl rfl (OpP.lss rfl rfl) (by omega) ?_
      refine JL.pure rfl rfl (OpP.pickF rfl rfl) ?_
      refine JL.pure rfl rfl (OpP.move rfl) ?_
      refine JL.pure rfl rfl (OpP.fieldAddr rfl) ?_
      refine JL.read rfl rfl (OpR.load1 rfl (Cell.row .head rfl)) ?_
      refine JL.pure rfl rfl (OpP.move rfl) ?_
      refine JL.decF rfl rfl (OpP.geq rfl rfl) (by omega) ?_
      refine JL.pure rfl rfl (OpP.pickF rfl rfl) ?_
      refine JL.nil ?_
      refine J.condF rfl ?_
      refine J.skip ?_
      refine J.seq ?_
      refine J.region ?_
      refine JL.pure rfl rfl (OpP.move rfl) ?_
      refine JL.pure rfl rfl (OpP.fieldAddr rfl) ?_
      refine JL.read rfl rfl (OpR.load1 rfl (Cell.row .head rfl)) ?_
      refine JL.pure rfl rfl (OpP.indexAddr rfl rfl (by omega) (by omega)) ?_
      refine JL.pure rfl rfl (OpP.fieldAddr rfl) ?_
      refine JL.read rfl rfl (OpR.load1 rfl (by apply Cells.cellChunk (j := 0) hcs (fun _ h => Own.pick (pre := [_, _]) [1] rfl h); (case' h => assumption); (case' hi => exact hu); (case' hv => rfl); (case' ho => omega); done)) ?_
      refine JL.pure rfl rfl (OpP.assign rfl) ?_
      refine JL.nil ?_
      rcases hk with ⟨rfl, h1, h2⟩ | ⟨rfl, h1, h2⟩ | ⟨rfl, h1, h2⟩ | ⟨rfl, h1, h2⟩
      · rcases h1 with h1 | h1
        · refine J.seq ?_
          refine J.region ?_
          refine JL.pure rfl rfl (OpP.fieldAddr rfl) ?_
          refine JL.read rfl rfl (OpR.load1 rfl (Cell.row .head rfl)) ?_
          refine JL.decT rfl rfl (OpP.eql rfl rfl) (by omega) ?_
          refine JL.pure rfl rfl (OpP.move rfl) ?_
          refine JL.pure rfl rfl (OpP.move rfl) ?_
          refine JL.decT rfl rfl (OpP.eql rfl rfl) (by omega) ?_
          refine JL.pure rfl rfl (OpP.move rfl) ?_
          refine JL.skip rfl rfl ?_
          refine JL.skip rfl rfl ?_
          refine JL.pure rfl rfl (OpP.pickT rfl rfl) ?_
          refine JL.pure rfl rfl (OpP.pickT rfl rfl) ?_
          refine JL.pure rfl rfl (OpP.move rfl) ?_
          refine JL.skip rfl rfl ?_
          refine JL.skip rfl rfl ?_
          refine JL.skip rfl rfl ?_
          refine JL.skip rfl rfl ?_
          refine JL.skip rfl rfl ?_
          refine JL.skip rfl rfl ?_
          refine JL.skip rfl rfl ?_
          refine JL.skip rfl rfl ?_
          refine JL.skip rfl rfl ?_
          refine JL.skip rfl rfl ?_
          refine JL.skip rfl rfl ?_
          refine JL.pure rfl rfl (OpP.pickT rfl rfl) ?_
          refine JL.pure rfl rfl (OpP.move rfl) ?_
          refine JL.skip rfl rfl ?_
          refine JL.skip rfl rfl ?_
          refine JL.skip rfl rfl ?_
          refine JL.skip rfl rfl ?_
          refine JL.skip rfl rfl ?_
          refine JL.skip rfl rfl ?_
          refine JL.skip rfl rfl ?_
          refine JL.skip rfl rfl ?_
          refine JL.skip rfl rfl ?_
          refine JL.skip rfl rfl ?_
          refine JL.skip rfl rfl ?_
          refine JL.pure rfl rfl (OpP.pickT rfl rfl) ?_
          refine JL.pure rfl rfl (OpP.assign rfl) ?_
          refine JL.nil ?_
          refine J.seq ?_
          refine J.seq ?_
          refine J.region ?_
          refine JL.pure rfl rfl (OpP.fieldAddr rfl) ?_
          refine JL.read rfl rfl (OpR.load1 rfl (Cell.row .head rfl)) ?_
          refine JL.decF rfl rfl (OpP.eql rfl rfl) (by omega) ?_
          refine JL.nil ?_
          refine J.condF rfl ?_
          refine J.skip ?_
          refine J.seq ?_
          refine J.region ?_
          refine JL.pure rfl rfl (OpP.move rfl) ?_
          refine JL.pure rfl rfl (OpP.notB rfl) ?_
          refine JL.pure rfl rfl (OpP.move rfl) ?_
          refine JL.pure rfl rfl (OpP.fieldAddr rfl) ?_
          refine JL.read rfl rfl (OpR.load1 rfl (Cell.row .head rfl)) ?_
          refine JL.decT rfl rfl (OpP.neq rfl rfl) (by omega) ?_
          refine JL.pure rfl rfl (OpP.move rfl) ?_
          refine JL.pure rfl rfl (OpP.fieldAddr rfl) ?_
          refine JL.read rfl rfl (OpR.load1 rfl (Cell.row .head rfl)) ?_
          refine JL.decF rfl rfl (OpP.neq rfl rfl) (by omega) ?_
          refine JL.pure rfl rfl (OpP.pickT rfl rfl) ?_
          refine JL.pure rfl rfl (OpP.pickF rfl rfl) ?_
          refine JL.nil ?_
          refine J.condF rfl ?_
          refine J.skip ?_
          refine J.inBlock ?_
          refine J.region ?_
          refine JL.pure rfl rfl (OpP.move rfl) ?_
          refine JL.pure rfl rfl (OpP.addI rfl rfl (by omega) (by omega)) ?_
          refine JL.pure rfl rfl (OpP.assign rfl) ?_
          refine JL.nil ?_
          exact back (k + 1) (by omega) (by omega) (by repeat (first | exact SubEnv.nil | refine SubEnv.cons (by first | rfl | exact congrArg (fun z => some (Value.int .i64 z)) (by omega) | (simp; done)) ?_)) (fun _ h => h.tail)
        · refine J.seq ?_
          refine J.region ?_
          refine JL.pure rfl rfl (OpP.fieldAddr rfl) ?_
          refine JL.read rfl rfl (OpR.load1 rfl (Cell.row .head rfl)) ?_
          refine JL.decT rfl rfl (OpP.eql rfl rfl) (by omega) ?_
          refine JL.pure rfl rfl (OpP.move rfl) ?_
          refine JL.pure rfl rfl (OpP.move rfl) ?_
          refine JL.decF rfl rfl (OpP.eql rfl rfl) (by omega) ?_
          refine JL.pure rfl rfl (OpP.move rfl) ?_
          refine JL.pure rfl rfl (OpP.move rfl) ?_
          refine JL.decT rfl rfl (OpP.eql rfl rfl) (by omega) ?_
          refine JL.pure rfl rfl (OpP.pickF rfl rfl) ?_
          refine JL.pure rfl rfl (OpP.pickT rfl rfl) ?_
          refine JL.pure rfl rfl (OpP.move rfl) ?_
          refine JL.skip rfl rfl ?_
          refine JL.skip rfl rfl ?_
          refine JL.skip rfl rfl ?_
          refine JL.skip rfl rfl ?_
          refine JL.skip rfl rfl ?_
          refine JL.skip rfl rfl ?_
          refine JL.skip rfl rfl ?_
          refine JL.skip rfl rfl ?_
          refine JL.skip rfl rfl ?_
          refine JL.skip rfl rfl ?_
          refine JL.skip rfl rfl ?_
          refine JL.pure rfl rfl (OpP.pickT rfl rfl) ?_
          refine JL.pure rfl rfl (OpP.move rfl) ?_
          refine JL.skip rfl rfl ?_
          refine JL.skip rfl rfl ?_
          refine JL.skip rfl rfl ?_
          refine JL.skip rfl rfl ?_
          refine JL.skip rfl rfl ?_
          refine JL.skip rfl rfl ?_
          refine JL.skip rfl rfl ?_
          refine JL.skip rfl rfl ?_
          refine JL.skip rfl rfl ?_
          refine JL.skip rfl rfl ?_
          refine JL.skip rfl rfl ?_
          refine JL.pure rfl rfl (OpP.pickT rfl rfl) ?_
          refine JL.pure rfl rfl (OpP.assign rfl) ?_
          refine JL.nil ?_
          refine J.seq ?_
          refine J.seq ?_
          refine J.region ?_
          refine JL.pure rfl rfl (OpP.fieldAddr rfl) ?_
          refine JL.read rfl rfl (OpR.load1 rfl (Cell.row .head rfl)) ?_
          refine JL.decF rfl rfl (OpP.eql rfl rfl) (by omega) ?_
          refine JL.nil ?_
          refine J.condF rfl ?_
          refine J.skip ?_
          refine J.seq ?_
          refine J.region ?_
          refine JL.pure rfl rfl (OpP.move rfl) ?_
          refine JL.pure rfl rfl (OpP.notB rfl) ?_
          refine JL.pure rfl rfl (OpP.move rfl) ?_
          refine JL.pure rfl rfl (OpP.fieldAddr rfl) ?_
          refine JL.read rfl rfl (OpR.load1 rfl (Cell.row .head rfl)) ?_
          refine JL.decT rfl rfl (OpP.neq rfl rfl) (by omega) ?_
          refine JL.pure rfl rfl (OpP.move rfl) ?_
          refine JL.pure rfl rfl (OpP.fieldAddr rfl) ?_
          refine JL.read rfl rfl (OpR.load1 rfl (Cell.row .head rfl)) ?_
          refine JL.decF rfl rfl (OpP.neq rfl rfl) (by omega) ?_
          refine JL.pure rfl rfl (OpP.pickT rfl rfl) ?_
          refine JL.pure rfl rfl (OpP.pickF rfl rfl) ?_
          refine JL.nil ?_
          refine J.condF rfl ?_
          refine J.skip ?_
          refine J.inBlock ?_
          refine J.region ?_
          refine JL.pure rfl rfl (OpP.move rfl) ?_
          refine JL.pure rfl rfl (OpP.addI rfl rfl (by omega) (by omega)) ?_
          refine JL.pure rfl rfl (OpP.assign rfl) ?_
          refine JL.nil ?_
          exact back (k + 1) (by omega) (by omega) (by repeat (first | exact SubEnv.nil | refine SubEnv.cons (by first | rfl | exact congrArg (fun z => some (Value.int .i64 z)) (by omega) | (simp; done)) ?_)) (fun _ h => h.tail)
      · rcases h1 with h1 | h1
        · refine J.seq ?_
          refine J.region ?_
          refine JL.pure rfl rfl (OpP.fieldAddr rfl) ?_
          refine JL.read rfl rfl (OpR.load1 rfl (Cell.row .head rfl)) ?_
          refine JL.decF rfl rfl (OpP.eql rfl rfl) (by omega) ?_
          refine JL.pure rfl rfl (OpP.move rfl) ?_
          refine JL.skip rfl rfl ?_
          refine JL.skip rfl rfl ?_
          refine JL.skip rfl rfl ?_
          refine JL.skip rfl rfl ?_
          refine JL.skip rfl rfl ?_
          refine JL.skip rfl rfl ?_
          refine JL.pure rfl rfl (OpP.pickF rfl rfl) ?_
          refine JL.pure rfl rfl (OpP.move rfl) ?_
          refine JL.pure rfl rfl (OpP.fieldAddr rfl) ?_
          refine JL.read rfl rfl (OpR.load1 rfl (Cell.row .head rfl)) ?_
          refine JL.decT rfl rfl (OpP.eql rfl rfl) (by omega) ?_
          refine JL.pure rfl rfl (OpP.move rfl) ?_
          refine JL.pure rfl rfl (OpP.move rfl) ?_
          refine JL.decT rfl rfl (OpP.eql rfl rfl) (by omega) ?_
          refine JL.pure rfl rfl (OpP.move rfl) ?_
          refine JL.skip rfl rfl ?_
          refine JL.skip rfl rfl ?_
          refine JL.pure rfl rfl (OpP.pickT rfl rfl) ?_
          refine JL.pure rfl rfl (OpP.pickT rfl rfl) ?_
          refine JL.pure rfl rfl (OpP.pickF rfl rfl) ?_
          refine JL.pure rfl rfl (OpP.move rfl) ?_
          refine JL.skip rfl rfl ?_
          refine JL.skip rfl rfl ?_
          refine JL.skip rfl rfl ?_
          refine JL.skip rfl rfl ?_
          refine JL.skip rfl rfl ?_
          refine JL.skip rfl rfl ?_
          refine JL.skip rfl rfl ?_
          refine JL.skip rfl rfl ?_
          refine JL.skip rfl rfl ?_
          refine JL.skip rfl rfl ?_
          refine JL.skip rfl rfl ?_
          refine JL.pure rfl rfl (OpP.pickT rfl rfl) ?_
          refine JL.pure rfl rfl (OpP.assign rfl) ?_
          refine JL.nil ?_
          refine J.seq ?_
          refine J.seq ?_
          refine J.region ?_
          refine JL.pure rfl rfl (OpP.fieldAddr rfl) ?_
          refine JL.read rfl rfl (OpR.load1 rfl (Cell.row .head rfl)) ?_
          refine JL.decF rfl rfl (OpP.eql rfl rfl) (by omega) ?_
          refine JL.nil ?_
          refine J.condF rfl ?_
          refine J.skip ?_
          refine J.seq ?_
          refine J.region ?_
          refine JL.pure rfl rfl (OpP.move rfl) ?_
          refine JL.pure rfl rfl (OpP.notB rfl) ?_
          refine JL.pure rfl rfl (OpP.move rfl) ?_
          refine JL.pure rfl rfl (OpP.fieldAddr rfl) ?_
          refine JL.read rfl rfl (OpR.load1 rfl (Cell.row .head rfl)) ?_
          refine JL.decT rfl rfl (OpP.neq rfl rfl) (by omega) ?_
          refine JL.pure rfl rfl (OpP.move rfl) ?_
          refine JL.pure rfl rfl (OpP.fieldAddr rfl) ?_
          refine JL.read rfl rfl (OpR.load1 rfl (Cell.row .head rfl)) ?_
          refine JL.decF rfl rfl (OpP.neq rfl rfl) (by omega) ?_
          refine JL.pure rfl rfl (OpP.pickT rfl rfl) ?_
          refine JL.pure rfl rfl (OpP.pickF rfl rfl) ?_
          refine JL.nil ?_
          refine J.condF rfl ?_
          refine J.skip ?_
          refine J.inBlock ?_
          refine J.region ?_
          refine JL.pure rfl rfl (OpP.move rfl) ?_
          refine JL.pure rfl rfl (OpP.addI rfl rfl (by omega) (by omega)) ?_
          refine JL.pure rfl rfl (OpP.assign rfl) ?_
          refine JL.nil ?_
          exact back (k + 1) (by omega) (by omega) (by repeat (first | exact SubEnv.nil | refine SubEnv.cons (by first | rfl | exact congrArg (fun z => some (Value.int .i64 z)) (by omega) | (simp; done)) ?_)) (fun _ h => h.tail)
        · refine J.seq ?_
          refine J.region ?_
          refine JL.pure rfl rfl (OpP.fieldAddr rfl) ?_
          refine JL.read rfl rfl (OpR.load1 rfl (Cell.row .head rfl)) ?_
          refine JL.decF rfl rfl (OpP.eql rfl rfl) (by omega) ?_
          refine JL.pure rfl rfl (OpP.move rfl) ?_
          refine JL.skip rfl rfl ?_
          refine JL.skip rfl rfl ?_
          refine JL.skip rfl rfl ?_
          refine JL.skip rfl rfl ?_
          refine JL.skip rfl rfl ?_
          refine JL.skip rfl rfl ?_
          refine JL.pure rfl rfl (OpP.pickF rfl rfl) ?_
          refine JL.pure rfl rfl (OpP.move rfl) ?_
          refine JL.pure rfl rfl (OpP.fieldAddr rfl) ?_
          refine JL.read rfl rfl (OpR.load1 rfl (Cell.row .head rfl)) ?_
          refine JL.decT rfl rfl (OpP.eql rfl rfl) (by omega) ?_
          refine JL.pure rfl rfl (OpP.move rfl) ?_
          refine JL.pure rfl rfl (OpP.move rfl) ?_
          refine JL.decF rfl rfl (OpP.eql rfl rfl) (by omega) ?_
          refine JL.pure rfl rfl (OpP.move rfl) ?_
          refine JL.pure rfl rfl (OpP.move rfl) ?_
          refine JL.decT rfl rfl (OpP.eql rfl rfl) (by omega) ?_
          refine JL.pure rfl rfl (OpP.pickF rfl rfl) ?_
          refine JL.pure rfl rfl (OpP.pickT rfl rfl) ?_
          refine JL.pure rfl rfl (OpP.pickF rfl rfl) ?_
          refine JL.pure rfl rfl (OpP.move rfl) ?_
          refine JL.skip rfl rfl ?_
          refine JL.skip rfl rfl ?_
          refine JL.skip rfl rfl ?_
          refine JL.skip rfl rfl ?_
          refine JL.skip rfl rfl ?_
          refine JL.skip rfl rfl ?_
          refine JL.skip rfl rfl ?_
          refine JL.skip rfl rfl ?_
          refine JL.skip rfl rfl ?_
          refine JL.skip rfl rfl ?_
          refine JL.skip rfl rfl ?_
          refine JL.pure rfl rfl (OpP.pickT rfl rfl) ?_
          refine JL.pure rfl rfl (OpP.assign rfl) ?_
          refine JL.nil ?_
          refine J.seq ?_
          refine J.seq ?_
          refine J.region ?_
          refine JL.pure rfl rfl (OpP.fieldAddr rfl) ?_
          refine JL.read rfl rfl (OpR.load1 rfl (Cell.row .head rfl)) ?_
          refine JL.decF rfl rfl (OpP.eql rfl rfl) (by omega) ?_
          refine JL.nil ?_
          refine J.condF rfl ?_
          refine J.skip ?_
          refine J.seq ?_
          refine J.region ?_
          refine JL.pure rfl rfl (OpP.move rfl) ?_
          refine JL.pure rfl rfl (OpP.notB rfl) ?_
          refine JL.pure rfl rfl (OpP.move rfl) ?_
          refine JL.pure rfl rfl (OpP.fieldAddr rfl) ?_
          refine JL.read rfl rfl (OpR.load1 rfl (Cell.row .head rfl)) ?_
          refine JL.decT rfl rfl (OpP.neq rfl rfl) (by omega) ?_
          refine JL.pure rfl rfl (OpP.move rfl) ?_
          refine JL.pure rfl rfl (OpP.fieldAddr rfl) ?_
          refine JL.read rfl rfl (OpR.load1 rfl (Cell.row .head rfl)) ?_
          refine JL.decF rfl rfl (OpP.neq rfl rfl) (by omega) ?_
          refine JL.pure rfl rfl (OpP.pickT rfl rfl) ?_
          refine JL.pure rfl rfl (OpP.pickF rfl rfl) ?_
          refine JL.nil ?_
          refine J.condF rfl ?_
          refine J.skip ?_
          refine J.inBlock ?_
          refine J.region ?_
          refine JL.pure rfl rfl (OpP.move rfl) ?_
          refine JL.pure rfl rfl (OpP.addI rfl rfl (by omega) (by omega)) ?_
          refine JL.pure rfl rfl (OpP.assign rfl) ?_
          refine JL.nil ?_
          exact back (k + 1) (by omega) (by omega) (by repeat (first | exact SubEnv.nil | refine SubEnv.cons (by first | rfl | exact congrArg (fun z => some (Value.int .i64 z)) (by omega) | (simp; done)) ?_)) (fun _ h => h.tail)
      · rcases h1 with h1 | h1
        · refine J.seq ?_
          refine J.region ?_
          refine JL.pure rfl rfl (OpP.fieldAddr rfl) ?_
          refine JL.read rfl rfl (OpR.load1 rfl (Cell.row .head rfl)) ?_
          refine JL.decF rfl rfl (OpP.eql rfl rfl) (by omega) ?_
          refine JL.pure rfl rfl (OpP.move rfl) ?_
          refine JL.skip rfl rfl ?_
          refine JL.skip rfl rfl ?_
          refine JL.skip rfl rfl ?_
          refine JL.skip rfl rfl ?_
          refine JL.skip rfl rfl ?_
          refine JL.skip rfl rfl ?_
          refine JL.pure rfl rfl (OpP.pickF rfl rfl) ?_
          refine JL.pure rfl rfl (OpP.move rfl) ?_
          refine JL.pure rfl rfl (OpP.fieldAddr rfl) ?_
          refine JL.read rfl rfl (OpR.load1 rfl (Cell.row .head rfl)) ?_
          refine JL.decF rfl rfl (OpP.eql rfl rfl) (by omega) ?_
          refine JL.pure rfl rfl (OpP.move rfl) ?_
          refine JL.skip rfl rfl ?_
          refine JL.skip rfl rfl ?_
          refine JL.skip rfl rfl ?_
          refine JL.skip rfl rfl ?_
          refine JL.skip rfl rfl ?_
          refine JL.skip rfl rfl ?_
          refine JL.pure rfl rfl (OpP.pickF rfl rfl) ?_
          refine JL.pure rfl rfl (OpP.pickF rfl rfl) ?_
          refine JL.pure rfl rfl (OpP.move rfl) ?_
          refine JL.pure rfl rfl (OpP.fieldAddr rfl) ?_
          refine JL.read rfl rfl (OpR.load1 rfl (Cell.row .head rfl)) ?_
          refine JL.decT rfl rfl (OpP.eql rfl rfl) (by omega) ?_
          refine JL.pure rfl rfl (OpP.move rfl) ?_
          refine JL.pure rfl rfl (OpP.move rfl) ?_
          refine JL.decT rfl rfl (OpP.eql rfl rfl) (by omega) ?_
          refine JL.pure rfl rfl (OpP.move rfl) ?_
          refine JL.skip rfl rfl ?_
          refine JL.skip rfl rfl ?_
          refine JL.pure rfl rfl (OpP.pickT rfl rfl) ?_
          refine JL.pure rfl rfl (OpP.pickT rfl rfl) ?_
          refine JL.pure rfl rfl (OpP.pickF rfl rfl) ?_
          refine JL.pure rfl rfl (OpP.assign rfl) ?_
          refine JL.nil ?_
          refine J.seq ?_
          refine J.seq ?_
          refine J.region ?_
          refine JL.pure rfl rfl (OpP.fieldAddr rfl) ?_
          refine JL.read rfl rfl (OpR.load1 rfl (Cell.row .head rfl)) ?_
          refine JL.decF rfl rfl (OpP.eql rfl rfl) (by omega) ?_
          refine JL.nil ?_
          refine J.condF rfl ?_
          refine J.skip ?_
          refine J.seq ?_
          refine J.region ?_
          refine JL.pure rfl rfl (OpP.move rfl) ?_
          refine JL.pure rfl rfl (OpP.notB rfl) ?_
          refine JL.pure rfl rfl (OpP.move rfl) ?_
          refine JL.pure rfl rfl (OpP.fieldAddr rfl) ?_
          refine JL.read rfl rfl (OpR.load1 rfl (Cell.row .head rfl)) ?_
          refine JL.decT rfl rfl (OpP.neq rfl rfl) (by omega) ?_
          refine JL.pure rfl rfl (OpP.move rfl) ?_
          refine JL.pure rfl rfl (OpP.fieldAddr rfl) ?_
          refine JL.read rfl rfl (OpR.load1 rfl (Cell.row .head rfl)) ?_
          refine JL.decF rfl rfl (OpP.neq rfl rfl) (by omega) ?_
          refine JL.pure rfl rfl (OpP.pickT rfl rfl) ?_
          refine JL.pure rfl rfl (OpP.pickF rfl rfl) ?_
          refine JL.nil ?_
          refine J.condF rfl ?_
          refine J.skip ?_
          refine J.inBlock ?_
          refine J.region ?_
          refine JL.pure rfl rfl (OpP.move rfl) ?_
          refine JL.pure rfl rfl (OpP.addI rfl rfl (by omega) (by omega)) ?_
          refine JL.pure rfl rfl (OpP.assign rfl) ?_
          refine JL.nil ?_
          exact back (k + 1) (by omega) (by omega) (by repeat (first | exact SubEnv.nil | refine SubEnv.cons (by first | rfl | exact congrArg (fun z => some (Value.int .i64 z)) (by omega) | (simp; done)) ?_)) (fun _ h => h.tail)
        · refine J.seq ?_
          refine J.region ?_
          refine JL.pure rfl rfl (OpP.fieldAddr rfl) ?_
          refine JL.read rfl rfl (OpR.load1 rfl (Cell.row .head rfl)) ?_
          refine JL.decF rfl rfl (OpP.eql rfl rfl) (by omega) ?_
          refine JL.pure rfl rfl (OpP.move rfl) ?_
          refine JL.skip rfl rfl ?_
          refine JL.skip rfl rfl ?_
          refine JL.skip rfl rfl ?_
          refine JL.skip rfl rfl ?_
          refine JL.skip rfl rfl ?_
          refine JL.skip rfl rfl ?_
          refine JL.pure rfl rfl (OpP.pickF rfl rfl) ?_
          refine JL.pure rfl rfl (OpP.move rfl) ?_
          refine JL.pure rfl rfl (OpP.fieldAddr rfl) ?_
          refine JL.read rfl rfl (OpR.load1 rfl (Cell.row .head rfl)) ?_
          refine JL.decF rfl rfl (OpP.eql rfl rfl) (by omega) ?_
          refine JL.pure rfl rfl (OpP.move rfl) ?_
          refine JL.skip rfl rfl ?_
          refine JL.skip rfl rfl ?_
          refine JL.skip rfl rfl ?_
          refine JL.skip rfl rfl ?_
          refine JL.skip rfl rfl ?_
          refine JL.skip rfl rfl ?_
          refine JL.pure rfl rfl (OpP.pickF rfl rfl) ?_
          refine JL.pure rfl rfl (OpP.pickF rfl rfl) ?_
          refine JL.pure rfl rfl (OpP.move rfl) ?_
          refine JL.pure rfl rfl (OpP.fieldAddr rfl) ?_
          refine JL.read rfl rfl (OpR.load1 rfl (Cell.row .head rfl)) ?_
          refine JL.decT rfl rfl (OpP.eql rfl rfl) (by omega) ?_
          refine JL.pure rfl rfl (OpP.move rfl) ?_
          refine JL.pure rfl rfl (OpP.move rfl) ?_
          refine JL.decF rfl rfl (OpP.eql rfl rfl) (by omega) ?_
          refine JL.pure rfl rfl (OpP.move rfl) ?_
          refine JL.pure rfl rfl (OpP.move rfl) ?_
          refine JL.decT rfl rfl (OpP.eql rfl rfl) (by omega) ?_
          refine JL.pure rfl rfl (OpP.pickF rfl rfl) ?_
          refine JL.pure rfl rfl (OpP.pickT rfl rfl) ?_
          refine JL.pure rfl rfl (OpP.pickF rfl rfl) ?_
          refine JL.pure rfl rfl (OpP.assign rfl) ?_
          refine JL.nil ?_
          refine J.seq ?_
          refine J.seq ?_
          refine J.region ?_
          refine JL.pure rfl rfl (OpP.fieldAddr rfl) ?_
          refine JL.read rfl rfl (OpR.load1 rfl (Cell.row .head rfl)) ?_
          refine JL.decF rfl rfl (OpP.eql rfl rfl) (by omega) ?_
          refine JL.nil ?_
          refine J.condF rfl ?_
          refine J.skip ?_
          refine J.seq ?_
          refine J.region ?_
          refine JL.pure rfl rfl (OpP.move rfl) ?_
          refine JL.pure rfl rfl (OpP.notB rfl) ?_
          refine JL.pure rfl rfl (OpP.move rfl) ?_
          refine JL.pure rfl rfl (OpP.fieldAddr rfl) ?_
          refine JL.read rfl rfl (OpR.load1 rfl (Cell.row .head rfl)) ?_
          refine JL.decT rfl rfl (OpP.neq rfl rfl) (by omega) ?_
          refine JL.pure rfl rfl (OpP.move rfl) ?_
          refine JL.pure rfl rfl (OpP.fieldAddr rfl) ?_
          refine JL.read rfl rfl (OpR.load1 rfl (Cell.row .head rfl)) ?_
          refine JL.decF rfl rfl (OpP.neq rfl rfl) (by omega) ?_
          refine JL.pure rfl rfl (OpP.pickT rfl rfl) ?_
          refine JL.pure rfl rfl (OpP.pickF rfl rfl) ?_
          refine JL.nil ?_
          refine J.condF rfl ?_
          refine J.skip ?_
          refine J.inBlock ?_
          refine J.region ?_
          refine JL.pure rfl rfl (OpP.move rfl) ?_
          refine JL.pure rfl rfl (OpP.addI rfl rfl (by omega) (by omega)) ?_
          refine JL.pure rfl rfl (OpP.assign rfl) ?_
          refine JL.nil ?_
          exact back (k + 1) (by omega) (by omega) (by repeat (first | exact SubEnv.nil | refine SubEnv.cons (by first | rfl | exact congrArg (fun z => some (Value.int .i64 z)) (by omega) | (simp; done)) ?_)) (fun _ h => h.tail)
      · rcases h1 with h1 | h1 <;> rcases h2 with h2 | h2
        · refine J.seq ?_
          refine J.region ?_
          refine JL.pure rfl rfl (OpP.fieldAddr rfl) ?_
          refine JL.read rfl rfl (OpR.load1 rfl (Cell.row .head rfl)) ?_
          refine JL.decF rfl rfl (OpP.eql rfl rfl) (by omega) ?_
          refine JL.pure rfl rfl (OpP.move rfl) ?_
          refine JL.skip rfl rfl ?_
          refine JL.skip rfl rfl ?_
          refine JL.skip rfl rfl ?_
          refine JL.skip rfl rfl ?_
          refine JL.skip rfl rfl ?_
          refine JL.skip rfl rfl ?_
          refine JL.pure rfl rfl (OpP.pickF rfl rfl) ?_
          refine JL.pure rfl rfl (OpP.move rfl) ?_
          refine JL.pure rfl rfl (OpP.fieldAddr rfl) ?_
          refine JL.read rfl rfl (OpR.load1 rfl (Cell.row .head rfl)) ?_
          refine JL.decF rfl rfl (OpP.eql rfl rfl) (by omega) ?_
          refine JL.pure rfl rfl (OpP.move rfl) ?_
          refine JL.skip rfl rfl ?_
          refine JL.skip rfl rfl ?_
          refine JL.skip rfl rfl ?_
          refine JL.skip rfl rfl ?_
          refine JL.skip rfl rfl ?_
          refine JL.skip rfl rfl ?_
          refine JL.pure rfl rfl (OpP.pickF rfl rfl) ?_
          refine JL.pure rfl rfl (OpP.pickF rfl rfl) ?_
          refine JL.pure rfl rfl (OpP.move rfl) ?_
          refine JL.pure rfl rfl (OpP.fieldAddr rfl) ?_
          refine JL.read rfl rfl (OpR.load1 rfl (Cell.row .head rfl)) ?_
          refine JL.decF rfl rfl (OpP.eql rfl rfl) (by omega) ?_
          refine JL.pure rfl rfl (OpP.move rfl) ?_
          refine JL.skip rfl rfl ?_
          refine JL.skip rfl rfl ?_
          refine JL.skip rfl rfl ?_
          refine JL.skip rfl rfl ?_
          refine JL.skip rfl rfl ?_
          refine JL.skip rfl rfl ?_
          refine JL.pure rfl rfl (OpP.pickF rfl rfl) ?_
          refine JL.pure rfl rfl (OpP.pickF rfl rfl) ?_
          refine JL.pure rfl rfl (OpP.assign rfl) ?_
          refine JL.nil ?_
          refine J.seq ?_
          refine J.seq ?_
          refine J.region ?_
          refine JL.pure rfl rfl (OpP.fieldAddr rfl) ?_
          refine JL.read rfl rfl (OpR.load1 rfl (Cell.row .head rfl)) ?_
          refine JL.decT rfl rfl (OpP.eql rfl rfl) (by omega) ?_
          refine JL.nil ?_
          refine J.condT rfl ?_
          refine J.seq ?_
          refine J.region ?_
          refine JL.pure rfl rfl (OpP.move rfl) ?_
          refine JL.pure rfl rfl (OpP.fieldAddr rfl) ?_
          refine JL.read rfl rfl (OpR.load1 rfl (Cell.row .head rfl)) ?_
          refine JL.pure rfl rfl (OpP.indexAddr rfl rfl (by omega) (by omega)) ?_
          refine JL.pure rfl rfl (OpP.fieldAddr rfl) ?_
          refine JL.read rfl rfl (OpR.load1 rfl (by apply Cells.cellChunk (j := 0) hcs (fun _ h => Own.pick (pre := [_, _]) [1] rfl h); (case' h => assumption); (case' hi => exact hs); (case' hv => rfl); (case' ho => omega); done)) ?_
          refine JL.pure rfl rfl (OpP.assign rfl) ?_
          refine JL.nil ?_
          refine J.region ?_
          refine JL.pure rfl rfl (OpP.move rfl) ?_
          refine JL.decT rfl rfl (OpP.eql rfl rfl) (by omega) ?_
          refine JL.pure rfl rfl (OpP.move rfl) ?_
          refine JL.skip rfl rfl ?_
          refine JL.skip rfl rfl ?_
          refine JL.pure rfl rfl (OpP.pickT rfl rfl) ?_
          refine JL.pure rfl rfl (OpP.move rfl) ?_
          refine JL.pure rfl rfl (OpP.move rfl) ?_
          refine JL.decT rfl rfl (OpP.eql rfl rfl) (by omega) ?_
          refine JL.pure rfl rfl (OpP.move rfl) ?_
          refine JL.skip rfl rfl ?_
          refine JL.skip rfl rfl ?_
          refine JL.pure rfl rfl (OpP.pickT rfl rfl) ?_
          refine JL.pure rfl rfl (OpP.pickT rfl rfl) ?_
          refine JL.pure rfl rfl (OpP.assign rfl) ?_
          refine JL.nil ?_
          refine J.seq ?_
          refine J.region ?_
          refine JL.pure rfl rfl (OpP.move rfl) ?_
          refine JL.pure rfl rfl (OpP.notB rfl) ?_
          refine JL.pure rfl rfl (OpP.move rfl) ?_
          refine JL.pure rfl rfl (OpP.fieldAddr rfl) ?_
          refine JL.read rfl rfl (OpR.load1 rfl (Cell.row .head rfl)) ?_
          refine JL.decF rfl rfl (OpP.neq rfl rfl) (by omega) ?_
          refine JL.pure rfl rfl (OpP.move rfl) ?_
          refine JL.skip rfl rfl ?_
          refine JL.skip rfl rfl ?_
          refine JL.skip rfl rfl ?_
          refine JL.pure rfl rfl (OpP.pickF rfl rfl) ?_
          refine JL.pure rfl rfl (OpP.pickF rfl rfl) ?_
          refine JL.nil ?_
          refine J.condF rfl ?_
          refine J.skip ?_
          refine J.inBlock ?_
          refine J.region ?_
          refine JL.pure rfl rfl (OpP.move rfl) ?_
          refine JL.pure rfl rfl (OpP.addI rfl rfl (by omega) (by omega)) ?_
          refine JL.pure rfl rfl (OpP.assign rfl) ?_
          refine JL.nil ?_
          exact back (k + 1) (by omega) (by omega) (by repeat (first | exact SubEnv.nil | refine SubEnv.cons (by first | rfl | exact congrArg (fun z => some (Value.int .i64 z)) (by omega) | (simp; done)) ?_)) (fun _ h => h.tail)
        · refine J.seq ?_
          refine J.region ?_
          refine JL.pure rfl rfl (OpP.fieldAddr rfl) ?_
          refine JL.read rfl rfl (OpR.load1 rfl (Cell.row .head rfl)) ?_
          refine JL.decF rfl rfl (OpP.eql rfl rfl) (by omega) ?_
          refine JL.pure rfl rfl (OpP.move rfl) ?_
          refine JL.skip rfl rfl ?_
          refine JL.skip rfl rfl ?_
          refine JL.skip rfl rfl ?_
          refine JL.skip rfl rfl ?_
          refine JL.skip rfl rfl ?_
          refine JL.skip rfl rfl ?_
          refine JL.pure rfl rfl (OpP.pickF rfl rfl) ?_
          refine JL.pure rfl rfl (OpP.move rfl) ?_
          refine JL.pure rfl rfl (OpP.fieldAddr rfl) ?_
          refine JL.read rfl rfl (OpR.load1 rfl (Cell.row .head rfl)) ?_
          refine JL.decF rfl rfl (OpP.eql rfl rfl) (by omega) ?_
          refine JL.pure rfl rfl (OpP.move rfl) ?_
          refine JL.skip rfl rfl ?_
          refine JL.skip rfl rfl ?_
          refine JL.skip rfl rfl ?_
          refine JL.skip rfl rfl ?_
          refine JL.skip rfl rfl ?_
          refine JL.skip rfl rfl ?_
          refine JL.pure rfl rfl (OpP.pickF rfl rfl) ?_
          refine JL.pure rfl rfl (OpP.pickF rfl rfl) ?_
          refine JL.pure rfl rfl (OpP.move rfl) ?_
          refine JL.pure rfl rfl (OpP.fieldAddr rfl) ?_
          refine JL.read rfl rfl (OpR.load1 rfl (Cell.row .head rfl)) ?_
          refine JL.decF rfl rfl (OpP.eql rfl rfl) (by omega) ?_
          refine JL.pure rfl rfl (OpP.move rfl) ?_
          refine JL.skip rfl rfl ?_
          refine JL.skip rfl rfl ?_
          refine JL.skip rfl rfl ?_
          refine JL.skip rfl rfl ?_
          refine JL.skip rfl rfl ?_
          refine JL.skip rfl rfl ?_
          refine JL.pure rfl rfl (OpP.pickF rfl rfl) ?_
          refine JL.pure rfl rfl (OpP.pickF rfl rfl) ?_
          refine JL.pure rfl rfl (OpP.assign rfl) ?_
          refine JL.nil ?_
          refine J.seq ?_
          refine J.seq ?_
          refine J.region ?_
          refine JL.pure rfl rfl (OpP.fieldAddr rfl) ?_
          refine JL.read rfl rfl (OpR.load1 rfl (Cell.row .head rfl)) ?_
          refine JL.decT rfl rfl (OpP.eql rfl rfl) (by omega) ?_
          refine JL.nil ?_
          refine J.condT rfl ?_
          refine J.seq ?_
          refine J.region ?_
          refine JL.pure rfl rfl (OpP.move rfl) ?_
          refine JL.pure rfl rfl (OpP.fieldAddr rfl) ?_
          refine JL.read rfl rfl (OpR.load1 rfl (Cell.row .head rfl)) ?_
          refine JL.pure rfl rfl (OpP.indexAddr rfl rfl (by omega) (by omega)) ?_
          refine JL.pure rfl rfl (OpP.fieldAddr rfl) ?_
          refine JL.read rfl rfl (OpR.load1 rfl (by apply Cells.cellChunk (j := 0) hcs (fun _ h => Own.pick (pre := [_, _]) [1] rfl h); (case' h => assumption); (case' hi => exact hs); (case' hv => rfl); (case' ho => omega); done)) ?_
          refine JL.pure rfl rfl (OpP.assign rfl) ?_
          refine JL.nil ?_
          refine J.region ?_
          refine JL.pure rfl rfl (OpP.move rfl) ?_
          refine JL.decT rfl rfl (OpP.eql rfl rfl) (by omega) ?_
          refine JL.pure rfl rfl (OpP.move rfl) ?_
          refine JL.skip rfl rfl ?_
          refine JL.skip rfl rfl ?_
          refine JL.pure rfl rfl (OpP.pickT rfl rfl) ?_
          refine JL.pure rfl rfl (OpP.move rfl) ?_
          refine JL.pure rfl rfl (OpP.move rfl) ?_
          refine JL.decF rfl rfl (OpP.eql rfl rfl) (by omega) ?_
          refine JL.pure rfl rfl (OpP.move rfl) ?_
          refine JL.pure rfl rfl (OpP.move rfl) ?_
          refine JL.decT rfl rfl (OpP.eql rfl rfl) (by omega) ?_
          refine JL.pure rfl rfl (OpP.pickF rfl rfl) ?_
          refine JL.pure rfl rfl (OpP.pickT rfl rfl) ?_
          refine JL.pure rfl rfl (OpP.assign rfl) ?_
          refine JL.nil ?_
          refine J.seq ?_
          refine J.region ?_
          refine JL.pure rfl rfl (OpP.move rfl) ?_
          refine JL.pure rfl rfl (OpP.notB rfl) ?_
          refine JL.pure rfl rfl (OpP.move rfl) ?_
          refine JL.pure rfl rfl (OpP.fieldAddr rfl) ?_
          refine JL.read rfl rfl (OpR.load1 rfl (Cell.row .head rfl)) ?_
          refine JL.decF rfl rfl (OpP.neq rfl rfl) (by omega) ?_
          refine JL.pure rfl rfl (OpP.move rfl) ?_
          refine JL.skip rfl rfl ?_
          refine JL.skip rfl rfl ?_
          refine JL.skip rfl rfl ?_
          refine JL.pure rfl rfl (OpP.pickF rfl rfl) ?_
          refine JL.pure rfl rfl (OpP.pickF rfl rfl) ?_
          refine JL.nil ?_
          refine J.condF rfl ?_
          refine J.skip ?_
          refine J.inBlock ?_
          refine J.region ?_
          refine JL.pure rfl rfl (OpP.move rfl) ?_
          refine JL.pure rfl rfl (OpP.addI rfl rfl (by omega) (by omega)) ?_
          refine JL.pure rfl rfl (OpP.assign rfl) ?_
          refine JL.nil ?_
          exact back (k + 1) (by omega) (by omega) (by repeat (first | exact SubEnv.nil | refine SubEnv.cons (by first | rfl | exact congrArg (fun z => some (Value.int .i64 z)) (by omega) | (simp; done)) ?_)) (fun _ h => h.tail)
        · refine J.seq ?_
          refine J.region ?_
          refine JL.pure rfl rfl (OpP.fieldAddr rfl) ?_
          refine JL.read rfl rfl (OpR.load1 rfl (Cell.row .head rfl)) ?_
          refine JL.decF rfl rfl (OpP.eql rfl rfl) (by omega) ?_
          refine JL.pure rfl rfl (OpP.move rfl) ?_
          refine JL.skip rfl rfl ?_
          refine JL.skip rfl rfl ?_
          refine JL.skip rfl rfl ?_
          refine JL.skip rfl rfl ?_
          refine JL.skip rfl rfl ?_
          refine JL.skip rfl rfl ?_
          refine JL.pure rfl rfl (OpP.pickF rfl rfl) ?_
          refine JL.pure rfl rfl (OpP.move rfl) ?_
          refine JL.pure rfl rfl (OpP.fieldAddr rfl) ?_
          refine JL.read rfl rfl (OpR.load1 rfl (Cell.row .head rfl)) ?_
          refine JL.decF rfl rfl (OpP.eql rfl rfl) (by omega) ?_
          refine JL.pure rfl rfl (OpP.move rfl) ?_
          refine JL.skip rfl rfl ?_
          refine JL.skip rfl rfl ?_
          refine JL.skip rfl rfl ?_
          refine JL.skip rfl rfl ?_
          refine JL.skip rfl rfl ?_
          refine JL.skip rfl rfl ?_
          refine JL.pure rfl rfl (OpP.pickF rfl rfl) ?_
          refine JL.pure rfl rfl (OpP.pickF rfl rfl) ?_
          refine JL.pure rfl rfl (OpP.move rfl) ?_
          refine JL.pure rfl rfl (OpP.fieldAddr rfl) ?_
          refine JL.read rfl rfl (OpR.load1 rfl (Cell.row .head rfl)) ?_
          refine JL.decF rfl rfl (OpP.eql rfl rfl) (by omega) ?_
          refine JL.pure rfl rfl (OpP.move rfl) ?_
          refine JL.skip rfl rfl ?_
          refine JL.skip rfl rfl ?_
          refine JL.skip rfl rfl ?_
          refine JL.skip rfl rfl ?_
          refine JL.skip rfl rfl ?_
          refine JL.skip rfl rfl ?_
          refine JL.pure rfl rfl (OpP.pickF rfl rfl) ?_
          refine JL.pure rfl rfl (OpP.pickF rfl rfl) ?_
          refine JL.pure rfl rfl (OpP.assign rfl) ?_
          refine JL.nil ?_
          refine J.seq ?_
          refine J.seq ?_
          refine J.region ?_
          refine JL.pure rfl rfl (OpP.fieldAddr rfl) ?_
          refine JL.read rfl rfl (OpR.load1 rfl (Cell.row .head rfl)) ?_
          refine JL.decT rfl rfl (OpP.eql rfl rfl) (by omega) ?_
          refine JL.nil ?_
          refine J.condT rfl ?_
          refine J.seq ?_
          refine J.region ?_
          refine JL.pure rfl rfl (OpP.move rfl) ?_
          refine JL.pure rfl rfl (OpP.fieldAddr rfl) ?_
          refine JL.read rfl rfl (OpR.load1 rfl (Cell.row .head rfl)) ?_
          refine JL.pure rfl rfl (OpP.indexAddr rfl rfl (by omega) (by omega)) ?_
          refine JL.pure rfl rfl (OpP.fieldAddr rfl) ?_
          refine JL.read rfl rfl (OpR.load1 rfl (by apply Cells.cellChunk (j := 0) hcs (fun _ h => Own.pick (pre := [_, _]) [1] rfl h); (case' h => assumption); (case' hi => exact hs); (case' hv => rfl); (case' ho => omega); done)) ?_
          refine JL.pure rfl rfl (OpP.assign rfl) ?_
          refine JL.nil ?_
          refine J.region ?_
          refine JL.pure rfl rfl (OpP.move rfl) ?_
          refine JL.decF rfl rfl (OpP.eql rfl rfl) (by omega) ?_
          refine JL.pure rfl rfl (OpP.move rfl) ?_
          refine JL.pure rfl rfl (OpP.move rfl) ?_
          refine JL.decT rfl rfl (OpP.eql rfl rfl) (by omega) ?_
          refine JL.pure rfl rfl (OpP.pickF rfl rfl) ?_
          refine JL.pure rfl rfl (OpP.move rfl) ?_
          refine JL.pure rfl rfl (OpP.move rfl) ?_
          refine JL.decT rfl rfl (OpP.eql rfl rfl) (by omega) ?_
          refine JL.pure rfl rfl (OpP.move rfl) ?_
          refine JL.skip rfl rfl ?_
          refine JL.skip rfl rfl ?_
          refine JL.pure rfl rfl (OpP.pickT rfl rfl) ?_
          refine JL.pure rfl rfl (OpP.pickT rfl rfl) ?_
          refine JL.pure rfl rfl (OpP.assign rfl) ?_
          refine JL.nil ?_
          refine J.seq ?_
          refine J.region ?_
          refine JL.pure rfl rfl (OpP.move rfl) ?_
          refine JL.pure rfl rfl (OpP.notB rfl) ?_
          refine JL.pure rfl rfl (OpP.move rfl) ?_
          refine JL.pure rfl rfl (OpP.fieldAddr rfl) ?_
          refine JL.read rfl rfl (OpR.load1 rfl (Cell.row .head rfl)) ?_
          refine JL.decF rfl rfl (OpP.neq rfl rfl) (by omega) ?_
          refine JL.pure rfl rfl (OpP.move rfl) ?_
          refine JL.skip rfl rfl ?_
          refine JL.skip rfl rfl ?_
          refine JL.skip rfl rfl ?_
          refine JL.pure rfl rfl (OpP.pickF rfl rfl) ?_
          refine JL.pure rfl rfl (OpP.pickF rfl rfl) ?_
          refine JL.nil ?_
          refine J.condF rfl ?_
          refine J.skip ?_
          refine J.inBlock ?_
          refine J.region ?_
          refine JL.pure rfl rfl (OpP.move rfl) ?_
          refine JL.pure rfl rfl (OpP.addI rfl rfl (by omega) (by omega)) ?_
          refine JL.pure rfl rfl (OpP.assign rfl) ?_
          refine JL.nil ?_
          exact back (k + 1) (by omega) (by omega) (by repeat (first | exact SubEnv.nil | refine SubEnv.cons (by first | rfl | exact congrArg (fun z => some (Value.int .i64 z)) (by omega) | (simp; done)) ?_)) (fun _ h => h.tail)
        · refine J.seq ?_
          refine J.region ?_
          refine JL.pure rfl rfl (OpP.fieldAddr rfl) ?_
          refine JL.read rfl rfl (OpR.load1 rfl (Cell.row .head rfl)) ?_
          refine JL.decF rfl rfl (OpP.eql rfl rfl) (by omega) ?_
          refine JL.pure rfl rfl (OpP.move rfl) ?_
          refine JL.skip rfl rfl ?_
          refine JL.skip rfl rfl ?_
          refine JL.skip rfl rfl ?_
          refine JL.skip rfl rfl ?_
          refine JL.skip rfl rfl ?_
          refine JL.skip rfl rfl ?_
          refine JL.pure rfl rfl (OpP.pickF rfl rfl) ?_
          refine JL.pure rfl rfl (OpP.move rfl) ?_
          refine JL.pure rfl rfl (OpP.fieldAddr rfl) ?_
          refine JL.read rfl rfl (OpR.load1 rfl (Cell.row .head rfl)) ?_
          refine JL.decF rfl rfl (OpP.eql rfl rfl) (by omega) ?_
          refine JL.pure rfl rfl (OpP.move rfl) ?_
          refine JL.skip rfl rfl ?_
          refine JL.skip rfl rfl ?_
          refine JL.skip rfl rfl ?_
          refine JL.skip rfl rfl ?_
          refine JL.skip rfl rfl ?_
          refine JL.skip rfl rfl ?_
          refine JL.pure rfl rfl (OpP.pickF rfl rfl) ?_
          refine JL.pure rfl rfl (OpP.pickF rfl rfl) ?_
          refine JL.pure rfl rfl (OpP.move rfl) ?_
          refine JL.pure rfl rfl (OpP.fieldAddr rfl) ?_
          refine JL.read rfl rfl (OpR.load1 rfl (Cell.row .head rfl)) ?_
          refine JL.decF rfl rfl (OpP.eql rfl rfl) (by omega) ?_
          refine JL.pure rfl rfl (OpP.move rfl) ?_
          refine JL.skip rfl rfl ?_
          refine JL.skip rfl rfl ?_
          refine JL.skip rfl rfl ?_
          refine JL.skip rfl rfl ?_
          refine JL.skip rfl rfl ?_
          refine JL.skip rfl rfl ?_
          refine JL.pure rfl rfl (OpP.pickF rfl rfl) ?_
          refine JL.pure rfl rfl (OpP.pickF rfl rfl) ?_
          refine JL.pure rfl rfl (OpP.assign rfl) ?_
          refine JL.nil ?_
          refine J.seq ?_
          refine J.seq ?_
          refine J.region ?_
          refine JL.pure rfl rfl (OpP.fieldAddr rfl) ?_
          refine JL.read rfl rfl (OpR.load1 rfl (Cell.row .head rfl)) ?_
          refine JL.decT rfl rfl (OpP.eql rfl rfl) (by omega) ?_
          refine JL.nil ?_
          refine J.condT rfl ?_
          refine J.seq ?_
          refine J.region ?_
          refine JL.pure rfl rfl (OpP.move rfl) ?_
          refine JL.pure rfl rfl (OpP.fieldAddr rfl) ?_
          refine JL.read rfl rfl (OpR.load1 rfl (Cell.row .head rfl)) ?_
          refine JL.pure rfl rfl (OpP.indexAddr rfl rfl (by omega) (by omega)) ?_
          refine JL.pure rfl rfl (OpP.fieldAddr rfl) ?_
          refine JL.read rfl rfl (OpR.load1 rfl (by apply Cells.cellChunk (j := 0) hcs (fun _ h => Own.pick (pre := [_, _]) [1] rfl h); (case' h => assumption); (case' hi => exact hs); (case' hv => rfl); (case' ho => omega); done)) ?_
          refine JL.pure rfl rfl (OpP.assign rfl) ?_
          refine JL.nil ?_
          refine J.region ?_
          refine JL.pure rfl rfl (OpP.move rfl) ?_
          refine JL.decF rfl rfl (OpP.eql rfl rfl) (by omega) ?_
          refine JL.pure rfl rfl (OpP.move rfl) ?_
          refine JL.pure rfl rfl (OpP.move rfl) ?_
          refine JL.decT rfl rfl (OpP.eql rfl rfl) (by omega) ?_
          refine JL.pure rfl rfl (OpP.pickF rfl rfl) ?_
          refine JL.pure rfl rfl (OpP.move rfl) ?_
          refine JL.pure rfl rfl (OpP.move rfl) ?_
          refine JL.decF rfl rfl (OpP.eql rfl rfl) (by omega) ?_
          refine JL.pure rfl rfl (OpP.move rfl) ?_
          refine JL.pure rfl rfl (OpP.move rfl) ?_
          refine JL.decT rfl rfl (OpP.eql rfl rfl) (by omega) ?_
          refine JL.pure rfl rfl (OpP.pickF rfl rfl) ?_
          refine JL.pure rfl rfl (OpP.pickT rfl rfl) ?_
          refine JL.pure rfl rfl (OpP.assign rfl) ?_
          refine JL.nil ?_
          refine J.seq ?_
          refine J.region ?_
          refine JL.pure rfl rfl (OpP.move rfl) ?_
          refine JL.pure rfl rfl (OpP.notB rfl) ?_
          refine JL.pure rfl rfl (OpP.move rfl) ?_
          refine JL.pure rfl rfl (OpP.fieldAddr rfl) ?_
          refine JL.read rfl rfl (OpR.load1 rfl (Cell.row .head rfl)) ?_
          refine JL.decF rfl rfl (OpP.neq rfl rfl) (by omega) ?_
          refine JL.pure rfl rfl (OpP.move rfl) ?_
          refine JL.skip rfl rfl ?_
          refine JL.skip rfl rfl ?_
          refine JL.skip rfl rfl ?_
          refine JL.pure rfl rfl (OpP.pickF rfl rfl) ?_
          refine JL.pure rfl rfl (OpP.pickF rfl rfl) ?_
          refine JL.nil ?_
          refine J.condF rfl ?_
          refine J.skip ?_
          refine J.inBlock ?_
          refine J.region ?_
          refine JL.pure rfl rfl (OpP.move rfl) ?_
          refine JL.pure rfl rfl (OpP.addI rfl rfl (by omega) (by omega)) ?_
          refine JL.pure rfl rfl (OpP.assign rfl) ?_
          refine JL.nil ?_
          exact back (k + 1) (by omega) (by omega) (by repeat (first | exact SubEnv.nil | refine SubEnv.cons (by first | rfl | exact congrArg (fun z => some (Value.int .i64 z)) (by omega) | (simp; done)) ?_)) (fun _ h => h.tail)
  · obtain rfl : i = ns.length := by omega
    have k0 : Cell w0 [own 45 11 (.slice (some ⟨ga, oa, none⟩) ns.length c) ns.length (ns.flatMap ncl)] ⟨ga, oa + 0 * 11 + 0, none⟩ (.int .i64 0) := by rw [← z2]; exact Cells.cellChunk (j := 0) hcs (fun _ h => h) hlen z1 rfl (by omega)
    have k1 : Cell w0 [own 45 11 (.slice (some ⟨ga, oa, none⟩) ns.length c) ns.length (ns.flatMap ncl)] ⟨ga, oa + 1 * 11 + 0, none⟩ (.int .i64 1) := by rw [← y2]; exact Cells.cellChunk (j := 0) hcs (fun _ h => h) hlen y1 rfl (by omega)
    clear hcs
    refine J.seq ?_
    refine J.seq ?_
    refine J.region ?_
    refine JL.pure rfl rfl (OpP.move rfl) ?_
    refine JL.pure rfl rfl (OpP.move rfl) ?_
    refine JL.pure rfl rfl (OpP.len rfl rfl) ?_
    refine JL.decF rfl rfl (OpP.lss rfl rfl) (by omega) ?_
    refine JL.nil ?_
    refine J.condF rfl ?_
    refine J.exit rfl ?_
    refine J.seq ?_
    refine J.region ?_
    refine JL.pure rfl rfl (OpP.move rfl) ?_
    refine JL.pure rfl rfl (OpP.len rfl rfl) ?_
    refine JL.decT rfl rfl (OpP.geq rfl rfl) (by omega) ?_
    refine JL.pure rfl rfl (OpP.move rfl) ?_
    refine JL.pure rfl rfl (OpP.move rfl) ?_
    refine JL.pure rfl rfl (OpP.indexAddr rfl rfl (by omega) (by omega)) ?_
    refine JL.pure rfl rfl (OpP.fieldAddr rfl) ?_
    refine JL.read rfl rfl (OpR.load1 rfl (k0.conv (fun _ h => h))) ?_
    refine JL.decT rfl rfl (OpP.eql rfl rfl) (by omega) ?_
    refine JL.pure rfl rfl (OpP.pickT rfl rfl) ?_
    refine JL.pure rfl rfl (OpP.move rfl) ?_
    refine JL.pure rfl rfl (OpP.move rfl) ?_
    refine JL.pure rfl rfl (OpP.indexAddr rfl rfl (by omega) (by omega)) ?_
    refine JL.pure rfl rfl (OpP.fieldAddr rfl) ?_
    refine JL.read rfl rfl (OpR.load1 rfl (k1.conv (fun _ h => h))) ?_
    refine JL.decT rfl rfl (OpP.eql rfl rfl) (by omega) ?_
    refine JL.pure rfl rfl (OpP.pickT rfl rfl) ?_
    refine JL.pure rfl rfl (OpP.assign rfl) ?_
    refine JL.nil ?_
    refine J.ret1 rfl rfl ?_
    rfl
theorem NetworkShares_law {W : World} {a : Array Value} (h : Fm Try.prog W 36 a.toList) :
    Calls Try.prog 5 #[.agg a] W fun e w' => e = .returned (.bool true) ∧ Below W.heap.size W w' := by
  obtain ⟨d, ⟨hd, hfn⟩, q⟩ := Fm.doc h
  obtain rfl : a = _ := by rw [← Array.toArray_toList (xs := a), q]
  exact FnO.law (NetworkShares_ok hd hfn) (Own.nil W)
end Go.Proofs.D
