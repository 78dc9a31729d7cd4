/- A text of the proof of a statement about the given program: its part CA2. No person has read it. -/
import Derived.Test.YtaodplndajeckaaCA1
import Derived.Test.YtaodplndajeckaaCJ2
-- seat c
namespace Go.Proofs.C
open Go Go.Gp Go.RowKit

/-- What is so of every ledger that comes of calls. -/
structure Inv (gs : List Gr) : Prop where
  len : gs.length ≤ 40
  at_ : ∀ (i : Nat) (g : Gr), gs[i]? = some g → g.num = (i : Int) + 1 ∧ DepOk g ∧ (timeP g.til ∧ nameP g.fr ∧ nameP g.to) ∧
    ((g.fr = rootS ∧ g.par = 0) ∨ (g.fr ≠ rootS ∧ ∃ (j : Nat) (p : Gr), g.par = (j : Int) + 1 ∧ j < i ∧ gs[j]? = some p ∧ p.to = g.fr ∧ g.dep < p.dep))
theorem Inv.wf {gs : List Gr} (h : Inv gs) : Wf gs := by
  refine ⟨Nat.le_trans h.len (by decide), fun i g hg => ?_⟩
  obtain ⟨h1, _, _, ⟨_, h2⟩ | ⟨_, j, _, h2, h3, _⟩⟩ := h.at_ i g hg
  · omega
  · omega
theorem Inv.mem {gs : List Gr} (h : Inv gs) {g : Gr} (hg : g ∈ gs) : ∃ i : Nat, gs[i]? = some g ∧ g.num = (i : Int) + 1 ∧ DepOk g ∧ timeP g.til ∧ nameP g.fr ∧ nameP g.to := by
  obtain ⟨i, hi⟩ := List.getElem?_of_mem hg
  obtain ⟨h1, h2, h3, _⟩ := h.at_ i g hi
  exact ⟨i, hi, h1, h2, h3⟩
theorem Inv.dep {gs : List Gr} (h : Inv gs) : ∀ g ∈ gs, DepOk g := fun g hg => let ⟨_, _, _, h, _⟩ := h.mem hg; h
theorem Inv.til {gs : List Gr} (h : Inv gs) : ∀ g ∈ gs, 0 ≤ g.til := fun g hg => let ⟨_, _, _, _, h⟩ := h.mem hg; h.1.1
theorem Inv.nil : Inv [] := ⟨by decide, fun i g h => by simp at h⟩
theorem setRev_get {gs : List Gr} {n : Int} {i : Nat} : (∀ g, (setRev gs n)[i]? = some g → ∃ h, gs[i]? = some h ∧ (g = h ∨ g = { h with rev := true })) ∧ (∀ h, gs[i]? = some h → ∃ g, (setRev gs n)[i]? = some g ∧ (g = h ∨ g = { h with rev := true })) := by
  rw [setRev]
  cases hg : gs[(n - 1).toNat]? with
  | none => exact ⟨fun g h => ⟨g, h, .inl rfl⟩, fun g h => ⟨g, h, .inl rfl⟩⟩
  | some g0 =>
    by_cases hi : (n - 1).toNat = i
    · subst hi
      have e : (gs.set (n - 1).toNat { g0 with rev := true })[(n - 1).toNat]? = some { g0 with rev := true } := by
        rw [List.getElem?_set_self (List.getElem?_eq_some_iff.1 hg).1]
      dsimp only
      rw [e, hg]
      exact ⟨fun g h => ⟨g0, rfl, .inr (Option.some.inj h).symm⟩, fun g h => ⟨_, rfl, .inr (by rw [Option.some.inj h])⟩⟩
    · dsimp only
      rw [List.getElem?_set_ne hi]
      exact ⟨fun g h => ⟨g, h, .inl rfl⟩, fun g h => ⟨g, h, .inl rfl⟩⟩
theorem setRev_length {gs : List Gr} {n : Int} : (setRev gs n).length = gs.length := by
  rw [setRev]; split
  · exact List.length_set
  · rfl
theorem Inv.rev {gs : List Gr} (h : Inv gs) (n : Int) : Inv (setRev gs n) := by
  refine ⟨by rw [setRev_length]; exact h.len, fun i g hg => ?_⟩
  obtain ⟨g0, hg0, e⟩ := setRev_get.1 g hg
  have h0 := h.at_ i g0 hg0
  have e2 : g.num = g0.num ∧ g.dep = g0.dep ∧ g.til = g0.til ∧ g.fr = g0.fr ∧ g.par = g0.par ∧ g.to = g0.to := by
    rcases e with rfl | rfl <;> exact ⟨rfl, rfl, rfl, rfl, rfl, rfl⟩
  obtain ⟨q1, q2, q3, q4, q5, q6⟩ := e2
  unfold DepOk at *
  rw [q1, q2, q3, q4, q5, q6]
  refine ⟨h0.1, h0.2.1, h0.2.2.1, ?_⟩
  rcases h0.2.2.2 with h1 | ⟨h1, j, p, h2, h3, h4, h5, h6⟩
  · exact .inl h1
  · obtain ⟨p', hp', e'⟩ := (setRev_get (n := n)).2 p h4
    refine .inr ⟨h1, j, p', h2, h3, hp', ?_, ?_⟩ <;> rcases e' with rfl | rfl <;> assumption
theorem parF_spec {gs : List Gr} (hI : Inv gs) {now d : Int} {who : Str} (hw : who ≠ rootS) (h1 : (authF gs now who).2 = true) (h2 : d < (authF gs now who).1) :
    ∃ (j : Nat) (p : Gr), parF gs now who d = (j : Int) + 1 ∧ gs[j]? = some p ∧ p.to = who ∧ d < p.dep ∧ aliveP gs now p.num := by
  rw [authF, if_neg hw] at h1 h2
  obtain ⟨h, l, e⟩ := topG_more (d := d) h1 (by omega)
  rw [parF, if_neg hw, e]
  dsimp only
  have hm := lateF_mem l h
  rw [← e] at hm
  obtain ⟨hm1, hm2⟩ := List.mem_filter.1 hm
  obtain ⟨hm1, hm3⟩ := List.mem_filter.1 hm1
  obtain ⟨i, hi, q, _⟩ := hI.mem hm1
  simp only [hasB, Bool.and_eq_true, decide_eq_true_eq] at hm3 hm2
  exact ⟨i, _, q, hi, hm3.1, hm2, hm3.2⟩
theorem inv_do {gs : List Gr} (h : Inv gs) (o : Oc) : Inv (doF gs o).1 := by
  rw [doF]
  split
  · split
    · exact h.rev _
    · exact h
  · split
    · rename_i hz
      obtain ⟨⟨_, w1, n1, n2, _, w2, w3⟩, _, w4, w5, w6⟩ := wrong0 hz
      dsimp only at w1 w2 w3 w4 w5
      refine ⟨by rw [List.length_append]; simp; omega, fun i g hg => ?_⟩
      by_cases hi : i < gs.length
      · rw [List.getElem?_append_left hi] at hg
        obtain ⟨q1, q2, q3, q4⟩ := h.at_ i g hg
        refine ⟨q1, q2, q3, q4.imp id fun ⟨a, j, p, b, c, d, e⟩ => ⟨a, j, p, b, c, ?_, e⟩⟩
        rw [List.getElem?_append_left (by omega)]; exact d
      · rw [List.getElem?_append_right (by omega)] at hg
        have hi2 : i - gs.length = 0 := by
          rcases Nat.eq_zero_or_pos (i - gs.length) with h | h
          · exact h
          · rw [List.getElem?_eq_none (by simp; omega)] at hg; cases hg
        rw [hi2] at hg
        obtain rfl := Option.some.inj hg
        have hil : i = gs.length := by omega
        subst hil
        refine ⟨rfl, ⟨w2, by dsimp only; omega⟩, ⟨w1, n1, n2⟩, ?_⟩
        dsimp only
        by_cases hr : o.a = rootS
        · exact .inl ⟨hr, by rw [parF, if_pos hr]⟩
        · obtain ⟨j, p, e1, e2, e3, e4, _⟩ := parF_spec h hr w4 w5
          have hj := (List.getElem?_eq_some_iff.1 e2).1
          exact .inr ⟨hr, j, p, e1, hj, by rw [List.getElem?_append_left hj]; exact e2, e3, e4⟩
    · exact h
end Go.Proofs.C

-- seat c
namespace Go.Proofs.C
open Go Go.Gp Go.RowKit

abbrev annS : Str := ⟨#[97, 110, 110]⟩
theorem awake_ok {w0 : World} {F : List HProp} : FnO Try.prog w0 21 [] F (fun r l' => r = .bool true ∧ l' = F) := by
  refine FnO.weak ?_
  refine FnO.intro (n := 27) Try.func21 rfl rfl rfl ?_
  have hw : wrongF [] 1 ⟨((([] : List Gr).length : Nat) : Int) + 1, rootS, annS, 2, 9, 0, false⟩ = 0 := by decide
  have hG := fun (G : List HProp) (x c : Nat) (a : Option Addr) => Give_ok (w0 := w0) (F := G) (x := x) (a := a) (c := c) (gs := []) (now := 1) (d := 2) (til := 9) (fr := rootS) (to := annS) Inv.nil.wf (by simp) (by decide) (by decide)
  have hp : parF [] 1 rootS 2 = 0 := by decide
  simp only [hw, hp, ne_eq, not_true_eq_false, false_and, false_or, true_and] at hG
  have wf : Wf [⟨1, rootS, annS, 2, 9, 0, false⟩] := by
    refine ⟨by decide, fun i g hg => ?_⟩
    match i, hg with
    | 0, hg => cases hg; exact ⟨by decide, by decide, by decide⟩
  have h1 : decide (aliveP [⟨1, rootS, annS, 2, 9, 0, false⟩] 1 1) = true := by decide
  have h2 : decide (aliveP [⟨1, rootS, annS, 2, 9, 0, false⟩] 9 1) = false := by decide
  have hA1 := fun (G : List HProp) (x c : Nat) (a : Option Addr) => alive_ok (w0 := w0) (F := ledL x a c [⟨1, rootS, annS, 2, 9, 0, false⟩] G) (now := 1) (n := 1) led_of wf
  have hA2 := fun (G : List HProp) (x c : Nat) (a : Option Addr) => alive_ok (w0 := w0) (F := ledL x a c [⟨1, rootS, annS, 2, 9, 0, false⟩] G) (now := 9) (n := 1) led_of wf
  rw [h1] at hA1
  rw [h2] at hA2
  have hN := fun (G : List HProp) => New_ok (w0 := w0) (F := G)
  unfold ledL at *
  refine J.seq ?_
  refine J.region ?_
  refine JL.pure rfl rfl (OpP.assign rfl) ?_
  refine JL.nil ?_
  refine J.seq ?_
  refine J.region ?_
  refine JL.step rfl rfl (OpW.call (first := []) (captured := []) inferInstance rfl rfl (hN _)) ?_; rintro r4 _ ⟨y, ⟨rfl, rfl⟩⟩
  refine JL.pure rfl rfl (OpP.assign rfl) ?_
  refine JL.nil ?_
  refine J.seq ?_
  refine J.seq ?_
  refine J.region ?_
  refine JL.pure rfl rfl (OpP.move rfl) ?_
  refine JL.pure rfl rfl (OpP.eqPtrNil rfl rfl) ?_
  refine JL.nil ?_
  refine J.condF rfl ?_
  refine J.skip ?_
  refine J.seq ?_
  refine J.region ?_
  refine JL.pure rfl rfl (OpP.move rfl) ?_
  refine JL.step rfl rfl (OpW.call (first := []) (captured := []) inferInstance rfl rfl (hG _ _ _ _)) ?_; rintro r9 _ ⟨rfl, ⟨a, ⟨c, rfl⟩⟩⟩
  refine JL.pure rfl rfl (OpP.move rfl) ?_
  refine JL.pure rfl rfl (OpP.extract rfl rfl) ?_
  refine JL.pure rfl rfl (OpP.extract rfl rfl) ?_
  refine JL.pure rfl rfl (OpP.assign rfl) ?_
  refine JL.pure rfl rfl (OpP.assign rfl) ?_
  refine JL.nil ?_
  refine J.seq ?_
  refine J.region ?_
  refine JL.pure rfl rfl (OpP.move rfl) ?_
  refine JL.decT rfl rfl (OpP.eql rfl rfl) (by omega) ?_
  refine JL.pure rfl rfl (OpP.move rfl) ?_
  refine JL.pure rfl rfl (OpP.move rfl) ?_
  refine JL.decT rfl rfl (OpP.eql rfl rfl) (by decide) ?_
  refine JL.pure rfl rfl (OpP.pickT rfl rfl) ?_
  refine JL.pure rfl rfl (OpP.move rfl) ?_
  refine JL.pure rfl rfl (OpP.move rfl) ?_
  refine JL.step rfl rfl (OpW.call (first := []) (captured := []) inferInstance rfl rfl (hA1 _ _ _ _)) ?_; rintro r20 _ ⟨rfl, rfl⟩
  refine JL.pure rfl rfl (OpP.pickT rfl rfl) ?_
  refine JL.pure rfl rfl (OpP.move rfl) ?_
  refine JL.pure rfl rfl (OpP.move rfl) ?_
  refine JL.step rfl rfl (OpW.call (first := []) (captured := []) inferInstance rfl rfl (hA2 _ _ _ _)) ?_; rintro r24 _ ⟨rfl, rfl⟩
  refine JL.pure rfl rfl (OpP.notB rfl) ?_
  refine JL.pure rfl rfl (OpP.pickT rfl rfl) ?_
  refine JL.pure rfl rfl (OpP.assign rfl) ?_
  refine JL.nil ?_
  refine J.ret1 rfl rfl ?_
  exact ⟨_, ⟨rfl, rfl⟩, fun _ h => h.tail.tail⟩
theorem few_ok {w0 : World} {F : List HProp} {a : Option Addr} {c : Nat} {m : Int} {os : List Oc} (hn : os.length ≤ 9223372036854775807) (hr : RdO w0 F (.slice a os.length c) os.length (os.flatMap ocl)) :
    FnO Try.prog w0 22 [.slice a os.length c, .int .i64 m] F (fun r l' => ∃ b, r = .bool b ∧ l' = F ∧ (b = true → (os.length : Int) ≤ m ∧ ∀ (j : Nat) (o : Oc), j < 200 → os[j]? = some o → o.a.size ≤ 100 ∧ o.b.size ≤ 100)) := by
  have hlen : ∀ o ∈ os, (ocl o).length = 6 := fun _ _ => rfl
  refine FnO.rd hr fun hr1 => ?_
  refine FnO.intro (n := 36) Try.func22 rfl rfl rfl ?_
  refine J.seq ?_
  refine J.region ?_
  refine JL.pure rfl rfl (OpP.assign rfl) ?_
  refine JL.nil ?_
  refine J.seq ?_
  refine J.seq ?_
  refine J.region ?_
  refine JL.pure rfl rfl (OpP.assign rfl) ?_
  refine JL.nil ?_
  refine J.block ?_
  refine J.loopI (fun j : Nat => os.length - j) (fun j => j ≤ os.length ∧ j ≤ 200 ∧ ∀ (q : Nat) (p : Oc), q < j → os[q]? = some p → p.a.size ≤ 100 ∧ p.b.size ≤ 100) (fun j => [(5, .int .i64 (j : Nat)), (0, .slice a os.length c), (1, .int .i64 m)])
    (fun _ => F) 0 ⟨Nat.zero_le _, Nat.zero_le _, fun _ _ h => absurd h (Nat.not_lt_zero _)⟩ (by repeat (first | exact SubEnv.nil | refine SubEnv.cons (by first | rfl | exact congrArg (fun z => some (Value.int .i64 z)) (by omega) | (simp; done)) ?_)) (fun _ h => h) (fun j hi back => ?_)
  dsimp only at hi back ⊢
  obtain ⟨hj, hj2, hg⟩ := hi
  by_cases hlt : j < os.length
  · by_cases h200 : j < 200
    · obtain ⟨o, ho⟩ : ∃ e, os[j]? = some e := ⟨_, List.getElem?_eq_getElem hlt⟩
      obtain ⟨ga, pa, qa, ea, ka, hcs⟩ := hr1.pos (by omega)
      cases ea
      refine J.seq ?_
      refine J.seq ?_
      refine J.region ?_
      refine JL.pure rfl rfl (OpP.move rfl) ?_
      refine JL.pure rfl rfl (OpP.move rfl) ?_
      refine JL.pure rfl rfl (OpP.len rfl rfl) ?_
      refine JL.decT rfl rfl (OpP.lss rfl rfl) (by omega) ?_
      refine JL.pure rfl rfl (OpP.move rfl) ?_
      refine JL.pure rfl rfl (OpP.move rfl) ?_
      refine JL.decT rfl rfl (OpP.lss rfl rfl) (by omega) ?_
      refine JL.pure rfl rfl (OpP.pickT rfl rfl) ?_
      refine JL.nil ?_
      refine J.condT rfl ?_
      refine J.skip ?_
      refine J.seq ?_
      refine J.block ?_
      refine J.seq ?_
      refine J.region ?_
      refine JL.pure rfl rfl (OpP.move rfl) ?_
      refine JL.pure rfl rfl (OpP.move rfl) ?_
      refine JL.pure rfl rfl (OpP.indexAddr rfl rfl (by omega) (by omega)) ?_
      refine JL.pure rfl rfl (OpP.fieldAddr rfl) ?_
      refine JL.read rfl rfl (OpR.load1 rfl (by apply Cells.cellChunk (j := 2) hcs (fun _ h => h); (case' h => assumption); (case' hi => assumption); (case' hv => rfl); (case' ho => omega); done)) ?_
      refine JL.pure rfl rfl (OpP.lenStr rfl rfl) ?_
      refine JL.dec rfl rfl (OpP.gtr rfl rfl) (fun h22 => ?_) (fun h22 => ?_)
      focus
        refine JL.pure rfl rfl (OpP.move rfl) ?_
        refine JL.skip rfl rfl ?_
        refine JL.skip rfl rfl ?_
        refine JL.skip rfl rfl ?_
        refine JL.skip rfl rfl ?_
        refine JL.skip rfl rfl ?_
        refine JL.skip rfl rfl ?_
        refine JL.skip rfl rfl ?_
        refine JL.pure rfl rfl (OpP.pickT rfl rfl) ?_
        refine JL.nil ?_
        refine J.condT rfl ?_
        refine J.seq ?_
        refine J.region ?_
        refine JL.pure rfl rfl (OpP.assign rfl) ?_
        refine JL.nil ?_
        refine J.ret1 rfl rfl ?_
      rotate_left 1
      focus
        refine JL.pure rfl rfl (OpP.move rfl) ?_
        refine JL.pure rfl rfl (OpP.move rfl) ?_
        refine JL.pure rfl rfl (OpP.move rfl) ?_
        refine JL.pure rfl rfl (OpP.indexAddr rfl rfl (by omega) (by omega)) ?_
        refine JL.pure rfl rfl (OpP.fieldAddr rfl) ?_
        refine JL.read rfl rfl (OpR.load1 rfl (by apply Cells.cellChunk (j := 3) hcs (fun _ h => h); (case' h => assumption); (case' hi => assumption); (case' hv => rfl); (case' ho => omega); done)) ?_
        refine JL.pure rfl rfl (OpP.lenStr rfl rfl) ?_
        refine JL.dec rfl rfl (OpP.gtr rfl rfl) (fun h30 => ?_) (fun h30 => ?_)
        focus
          refine JL.pure rfl rfl (OpP.pickF rfl rfl) ?_
          refine JL.nil ?_
          refine J.condT rfl ?_
          refine J.seq ?_
          refine J.region ?_
          refine JL.pure rfl rfl (OpP.assign rfl) ?_
          refine JL.nil ?_
          refine J.ret1 rfl rfl ?_
        rotate_left 1
        focus
          refine JL.pure rfl rfl (OpP.pickF rfl rfl) ?_
          refine JL.nil ?_
          refine J.condF rfl ?_
          refine J.skip ?_
          refine J.inBlock ?_
          refine J.region ?_
          refine JL.pure rfl rfl (OpP.move rfl) ?_
          refine JL.pure rfl rfl (OpP.addI rfl rfl (by omega) (by omega)) ?_
          refine JL.pure rfl rfl (OpP.assign rfl) ?_
          refine JL.nil ?_
        rotate_left 1
      rotate_left 2
      · exact ⟨_, rfl, rfl, fun q => by cases q⟩
      · exact ⟨_, rfl, rfl, fun q => by cases q⟩
      · refine back (j + 1) ⟨by omega, by omega, fun p u' hp hu' => ?_⟩ (by omega) (by repeat (first | exact SubEnv.nil | refine SubEnv.cons (by first | rfl | exact congrArg (fun z => some (Value.int .i64 z)) (by omega) | (simp; done)) ?_)) (fun _ h => h)
        by_cases hpj : p < j
        · exact hg p u' hpj hu'
        · obtain rfl : p = j := by omega
          obtain rfl : u' = o := Option.some.inj (hu'.symm.trans ho)
          exact ⟨by omega, by omega⟩
    · refine J.seq ?_
      refine J.seq ?_
      refine J.region ?_
      refine JL.pure rfl rfl (OpP.move rfl) ?_
      refine JL.pure rfl rfl (OpP.move rfl) ?_
      refine JL.pure rfl rfl (OpP.len rfl rfl) ?_
      refine JL.decT rfl rfl (OpP.lss rfl rfl) (by omega) ?_
      refine JL.pure rfl rfl (OpP.move rfl) ?_
      refine JL.pure rfl rfl (OpP.move rfl) ?_
      refine JL.decF rfl rfl (OpP.lss rfl rfl) (by omega) ?_
      refine JL.pure rfl rfl (OpP.pickT rfl rfl) ?_
      refine JL.nil ?_
      refine J.condF rfl ?_
      refine J.exit rfl ?_
      refine J.seq ?_
      refine J.region ?_
      refine JL.pure rfl rfl (OpP.move rfl) ?_
      refine JL.pure rfl rfl (OpP.len rfl rfl) ?_
      refine JL.pure rfl rfl (OpP.move rfl) ?_
      refine JL.dec rfl rfl (OpP.leq rfl rfl) (fun h35 => ?_) (fun h35 => ?_)
      focus
        refine JL.pure rfl rfl (OpP.assign rfl) ?_
        refine JL.nil ?_
        refine J.ret1 rfl rfl ?_
      rotate_left 1
      focus
        refine JL.pure rfl rfl (OpP.assign rfl) ?_
        refine JL.nil ?_
        refine J.ret1 rfl rfl ?_
      rotate_left 1
      · exact ⟨_, rfl, rfl, fun _ => ⟨by omega, fun q u hq hu => hg q u (by omega) hu⟩⟩
      · exact ⟨_, rfl, rfl, fun q => by cases q⟩
  · refine J.seq ?_
    refine J.seq ?_
    refine J.region ?_
    refine JL.pure rfl rfl (OpP.move rfl) ?_
    refine JL.pure rfl rfl (OpP.move rfl) ?_
    refine JL.pure rfl rfl (OpP.len rfl rfl) ?_
    refine JL.decF rfl rfl (OpP.lss rfl rfl) (by omega) ?_
    refine JL.pure rfl rfl (OpP.move rfl) ?_
    refine JL.skip rfl rfl ?_
    refine JL.skip rfl rfl ?_
    refine JL.pure rfl rfl (OpP.pickF rfl rfl) ?_
    refine JL.nil ?_
    refine J.condF rfl ?_
    refine J.exit rfl ?_
    refine J.seq ?_
    refine J.region ?_
    refine JL.pure rfl rfl (OpP.move rfl) ?_
    refine JL.pure rfl rfl (OpP.len rfl rfl) ?_
    refine JL.pure rfl rfl (OpP.move rfl) ?_
    refine JL.dec rfl rfl (OpP.leq rfl rfl) (fun h35 => ?_) (fun h35 => ?_)
    focus
      refine JL.pure rfl rfl (OpP.assign rfl) ?_
      refine JL.nil ?_
      refine J.ret1 rfl rfl ?_
    rotate_left 1
    focus
      refine JL.pure rfl rfl (OpP.assign rfl) ?_
      refine JL.nil ?_
      refine J.ret1 rfl rfl ?_
    rotate_left 1
    · exact ⟨_, rfl, rfl, fun _ => ⟨by omega, fun q u hq hu => hg q u (by have := (List.getElem?_eq_some_iff.1 hu).1; omega) hu⟩⟩
    · exact ⟨_, rfl, rfl, fun q => by cases q⟩

def madeF (os : List Oc) : List Gr := os.foldl (fun gs o => (doF gs o).1) []
theorem madeF_take {os : List Oc} {j : Nat} {o : Oc} (h : os[j]? = some o) : madeF (os.take (j + 1)) = (doF (madeF (os.take j)) o).1 := by
  rw [List.take_add_one, h, madeF, List.foldl_append]; rfl
theorem madeF_inv (os : List Oc) : Inv (madeF os) := by
  have : ∀ (os : List Oc) (gs : List Gr), Inv gs → Inv (os.foldl (fun gs o => (doF gs o).1) gs) := by
    intro os
    induction os with
    | nil => exact fun _ h => h
    | cons o os ih => exact fun gs h => ih _ (inv_do h o)
  exact this os [] Inv.nil
theorem refDo_ok {w0 : World} {F : List HProp} {c : Nat} {a : Option Addr} {gs : List Gr} {o : Oc} (hI : Inv gs) (ho : o.Ok) :
    FnO Try.prog w0 31 [.slice a gs.length c, .agg (ocl o).toArray] (own 62 7 (.slice a gs.length c) gs.length (gs.flatMap gcl) :: F) (fun r l' => ∃ a' c', r = .tuple #[.slice a' (doF gs o).1.length c', .int .i64 (doF gs o).2.1, .int .i64 (doF gs o).2.2] ∧ l' = own 62 7 (.slice a' (doF gs o).1.length c') (doF gs o).1.length ((doF gs o).1.flatMap gcl) :: F) := by
  by_cases hk : o.k % 2 = 1
  · exact refDo1_ok hI.wf ho hk
  · exact refDo2_ok hI.wf hI.dep hI.til ho hk
theorem made_ok {w0 : World} {F : List HProp} {a : Option Addr} {c : Nat} {os : List Oc} (hn : os.length ≤ 1000) (ho : ∀ o ∈ os, o.Ok) (hr : RdO w0 F (.slice a os.length c) os.length (os.flatMap ocl)) :
    FnO Try.prog w0 23 [.slice a os.length c] F (fun r l' => ∃ x a c a2 c2, r = .tuple #[.pointer (some ⟨x, 0, none⟩), .slice a2 (madeF os).length c2] ∧ l' = ledL x a c (madeF os) (own 62 7 (.slice a2 (madeF os).length c2) (madeF os).length ((madeF os).flatMap gcl) :: F)) := by
  have hlen : ∀ o ∈ os, (ocl o).length = 6 := fun _ _ => rfl
  refine FnO.rd hr fun hr1 => ?_
  refine FnO.weak ?_
  refine FnO.intro (n := 36) Try.func23 rfl rfl rfl ?_
  have hN := fun (G : List HProp) => New_ok (w0 := w0) (F := G)
  unfold ledL at *
  refine J.seq ?_
  refine J.region ?_
  refine JL.pure rfl rfl (OpP.assign rfl) ?_
  refine JL.pure rfl rfl (OpP.assign rfl) ?_
  refine JL.nil ?_
  refine J.seq ?_
  refine J.region ?_
  refine JL.step rfl rfl (OpW.call (first := []) (captured := []) inferInstance rfl rfl (hN _)) ?_; rintro r10 _ ⟨y, ⟨rfl, rfl⟩⟩
  refine JL.pure rfl rfl (OpP.assign rfl) ?_
  refine JL.nil ?_
  refine J.seq ?_
  refine J.region ?_
  refine JL.pure rfl rfl (OpP.assign rfl) ?_
  refine JL.nil ?_
  refine J.seq ?_
  refine J.seq ?_
  refine J.region ?_
  refine JL.pure rfl rfl (OpP.assign rfl) ?_
  refine JL.nil ?_
  refine J.block ?_
  refine J.loopI (fun x : Nat × (Value × Value) => os.length - x.1) (fun x => x.1 ≤ os.length ∧ (∃ a c, x.2.1 = .slice a (madeF (os.take x.1)).length c) ∧ ∃ a c, x.2.2 = .slice a (madeF (os.take x.1)).length c)
    (fun z => [(6, .int .i64 (z.1 : Nat)), (5, z.2.2), (4, .pointer (some ⟨y, 0, none⟩)), (0, .slice a os.length c)])
    (fun z => row y 82 [z.2.1] :: own 62 7 z.2.1 (madeF (os.take z.1)).length ((madeF (os.take z.1)).flatMap gcl) :: own 62 7 z.2.2 (madeF (os.take z.1)).length ((madeF (os.take z.1)).flatMap gcl) :: F) (0, .slice none 0 0, .slice none 0 0) ⟨Nat.zero_le _, ⟨none, 0, rfl⟩, none, 0, rfl⟩ (by repeat (first | exact SubEnv.nil | refine SubEnv.cons (by first | rfl | exact congrArg (fun z => some (Value.int .i64 z)) (by omega) | (simp; done)) ?_)) (fun _ h => ?_) (fun ⟨j, u, v⟩ hi back => ?_)
  · exact Own.pick (pre := [_, _, _]) [1, 2, 0] rfl h.own_nil
  dsimp only at hi back ⊢
  obtain ⟨hj, ⟨a1, c1, rfl⟩, a2, c2, rfl⟩ := hi
  by_cases hlt : j < os.length
  · obtain ⟨o, hoj⟩ : ∃ e, os[j]? = some e := ⟨_, List.getElem?_eq_getElem hlt⟩
    have hok := ho o (List.mem_of_getElem? hoj)
    have hnx := madeF_take hoj
    have hI := madeF_inv (os.take j)
    generalize madeF (os.take j) = gs at *
    obtain ⟨ga, pa, qa, ea, ka, hcs⟩ := hr1.pos (by omega)
    cases ea
    have hD := fun (G : List HProp) => Do_ok (w0 := w0) (F := G) (x := y) (a := a1) (c := c1) hI.wf hI.dep hok
    have hE := fun (G : List HProp) => refDo_ok (w0 := w0) (F := G) (a := a2) (c := c2) hI hok
    unfold ledL at *
    refine J.seq ?_
    refine J.seq ?_
    refine J.region ?_
    refine JL.pure rfl rfl (OpP.move rfl) ?_
    refine JL.pure rfl rfl (OpP.move rfl) ?_
    refine JL.pure rfl rfl (OpP.len rfl rfl) ?_
    refine JL.decT rfl rfl (OpP.lss rfl rfl) (by omega) ?_
    refine JL.nil ?_
    refine J.condT rfl ?_
    refine J.skip ?_
    refine J.seq ?_
    refine J.block ?_
    refine J.seq ?_
    refine J.region ?_
    refine JL.pure rfl rfl (OpP.move rfl) ?_
    refine JL.pure rfl rfl (OpP.move rfl) ?_
    refine JL.pure rfl rfl (OpP.move rfl) ?_
    refine JL.pure rfl rfl (OpP.indexAddr rfl rfl (by omega) (by omega)) ?_
    refine JL.read rfl rfl (OpR.loadN rfl (by apply Cells.conv (fun _ h => Own.pick (pre := [_, _, _]) [] rfl h); apply Cells.chunkAt hcs; (case' h => assumption); (case' hi => assumption); done) (by first | rfl | assumption)) ?_
    refine JL.step rfl rfl (OpW.call (first := []) (captured := []) inferInstance rfl rfl (hD _)) ?_; rintro r22 _ ⟨rfl, ⟨a, ⟨c3, rfl⟩⟩⟩
    refine JL.nil ?_
    refine J.seq ?_
    refine J.region ?_
    refine JL.pure rfl rfl (OpP.move rfl) ?_
    refine JL.pure rfl rfl (OpP.move rfl) ?_
    refine JL.pure rfl rfl (OpP.move rfl) ?_
    refine JL.pure rfl rfl (OpP.indexAddr rfl rfl (by omega) (by omega)) ?_
    refine JL.read rfl rfl (OpR.loadN rfl (by apply Cells.conv (fun _ h => Own.pick (pre := [_, _, _]) [] rfl h); apply Cells.chunkAt hcs; (case' h => assumption); (case' hi => assumption); done) (by first | rfl | assumption)) ?_
    refine JL.f2 ?_; refine JL.step rfl rfl (OpW.call (first := []) (captured := []) inferInstance rfl rfl (hE _)) ?_; rintro r29 _ ⟨a', ⟨c', ⟨rfl, rfl⟩⟩⟩
    refine JL.pure rfl rfl (OpP.move rfl) ?_
    refine JL.pure rfl rfl (OpP.extract rfl rfl) ?_
    refine JL.pure rfl rfl (OpP.extract rfl rfl) ?_
    refine JL.pure rfl rfl (OpP.extract rfl rfl) ?_
    refine JL.pure rfl rfl (OpP.assign rfl) ?_
    refine JL.pure rfl rfl (OpP.assign rfl) ?_
    refine JL.pure rfl rfl (OpP.assign rfl) ?_
    refine JL.nil ?_
    refine J.region ?_
    refine JL.pure rfl rfl (OpP.move rfl) ?_
    refine JL.pure rfl rfl (OpP.assign rfl) ?_
    refine JL.nil ?_
    refine J.inBlock ?_
    refine J.region ?_
    refine JL.pure rfl rfl (OpP.move rfl) ?_
    refine JL.pure rfl rfl (OpP.addI rfl rfl (by omega) (by omega)) ?_
    refine JL.pure rfl rfl (OpP.assign rfl) ?_
    refine JL.nil ?_
    refine back (j + 1, .slice a (doF gs o).1.length c3, .slice a' (doF gs o).1.length c') ⟨by dsimp only; omega, ⟨a, c3, by dsimp only; rw [hnx]⟩, a', c', by dsimp only; rw [hnx]⟩ (by dsimp only; omega) (by repeat (first | exact SubEnv.nil | refine SubEnv.cons (by first | rfl | exact congrArg (fun z => some (Value.int .i64 z)) (by omega) | (simp; done)) ?_)) (fun _ h => ?_)
    dsimp only
    rw [hnx]
    exact Own.pick (pre := [_, _, _]) [1, 2, 0] rfl h
  · have : j = os.length := by omega
    subst this
    rw [List.take_length]
    refine J.seq ?_
    refine J.seq ?_
    refine J.region ?_
    refine JL.pure rfl rfl (OpP.move rfl) ?_
    refine JL.pure rfl rfl (OpP.move rfl) ?_
    refine JL.pure rfl rfl (OpP.len rfl rfl) ?_
    refine JL.decF rfl rfl (OpP.lss rfl rfl) (by omega) ?_
    refine JL.nil ?_
    refine J.condF rfl ?_
    refine J.exit rfl ?_
    refine J.seq ?_
    refine J.region ?_
    refine JL.pure rfl rfl (OpP.move rfl) ?_
    refine JL.pure rfl rfl (OpP.move rfl) ?_
    refine JL.pure rfl rfl (OpP.assign rfl) ?_
    refine JL.pure rfl rfl (OpP.assign rfl) ?_
    refine JL.nil ?_
    refine J.ret2 rfl rfl rfl ?_
    exact ⟨_, ⟨y, a1, c1, a2, c2, rfl, rfl⟩, fun _ h => h⟩
end Go.Proofs.C

-- seat c
namespace Go.Proofs.C
open Go Go.Gp Go.RowKit

theorem Fm.oc {w0 : World} {cs : List Value} (h : Fm Try.prog w0 57 cs) : ∃ o : Oc, (0 ≤ o.k ∧ o.k ≤ 255) ∧ cs = ocl o := by
  have h := h.fields (l := [(5, 1), (2, 1), (9, 1), (9, 1), (3, 1), (2, 1)]) (by kernel_rfl)
  obtain ⟨c0, cs, rfl, f0, h⟩ := h.one
  obtain ⟨c1, cs, rfl, f1, h⟩ := h.one
  obtain ⟨c2, cs, rfl, f2, h⟩ := h.one
  obtain ⟨c3, cs, rfl, f3, h⟩ := h.one
  obtain ⟨c4, cs, rfl, f4, h⟩ := h.one
  obtain ⟨c5, cs, rfl, f5, h⟩ := h.one
  cases h
  obtain ⟨k, e0, k0⟩ := f0.int (k := .u8) (by kernel_rfl)
  obtain ⟨n1, e1, _⟩ := f1.int (k := .i64) (by kernel_rfl)
  obtain ⟨s2, e2, _⟩ := f2.str (by kernel_rfl)
  obtain ⟨s3, e3, _⟩ := f3.str (by kernel_rfl)
  obtain ⟨n4, e4, _⟩ := f4.int (k := .i64) (by kernel_rfl)
  obtain ⟨n5, e5, _⟩ := f5.int (k := .i64) (by kernel_rfl)
  simp [Lit.wf, IntKind.min, IntKind.max, IntKind.signed, IntKind.bits] at k0
  cases e0; cases e1; cases e2; cases e3; cases e4; cases e5
  exact ⟨⟨k, n1, s2, s3, n4, n5⟩, k0, rfl⟩
structure Ask where
  now : Int
  more : Int
  who : Str
  num : Int
abbrev acl (a : Ask) : List Value := [.int .i64 a.now, .int .i64 a.more, .string a.who, .int .i64 a.num]
theorem Fm.ask {w0 : World} {cs : List Value} (h : Fm Try.prog w0 42 cs) : ∃ a : Ask, cs = acl a ∧ (-9223372036854775808 ≤ a.now ∧ a.now ≤ 9223372036854775807) ∧ (-9223372036854775808 ≤ a.more ∧ a.more ≤ 9223372036854775807) := by
  have h := h.fields (l := [(2, 1), (2, 1), (9, 1), (3, 1)]) (by kernel_rfl)
  obtain ⟨c0, cs, rfl, f0, h⟩ := h.one
  obtain ⟨c1, cs, rfl, f1, h⟩ := h.one
  obtain ⟨c2, cs, rfl, f2, h⟩ := h.one
  obtain ⟨c3, cs, rfl, f3, h⟩ := h.one
  cases h
  obtain ⟨n0, e0, k0⟩ := f0.int (k := .i64) (by kernel_rfl)
  obtain ⟨n1, e1, k1⟩ := f1.int (k := .i64) (by kernel_rfl)
  obtain ⟨s2, e2, _⟩ := f2.str (by kernel_rfl)
  obtain ⟨n3, e3, _⟩ := f3.int (k := .i64) (by kernel_rfl)
  simp [Lit.wf, IntKind.min, IntKind.max, IntKind.signed, IntKind.bits] at k0 k1
  cases e0; cases e1; cases e2; cases e3
  exact ⟨⟨n0, n1, s2, n3⟩, rfl, k0, k1⟩
theorem ocs_ok {os : List Oc} (hk : ∀ o ∈ os, 0 ≤ o.k ∧ o.k ≤ 255) (hf : (os.length : Int) ≤ 60 ∧ ∀ (j : Nat) (o : Oc), j < 200 → os[j]? = some o → o.a.size ≤ 100 ∧ o.b.size ≤ 100) : ∀ o ∈ os, o.Ok := by
  intro o ho
  obtain ⟨j, hj⟩ := List.getElem?_of_mem ho
  have := (List.getElem?_eq_some_iff.1 hj).1
  obtain ⟨h1, h2⟩ := hf.2 j o (by omega) hj
  exact ⟨hk o ho, by omega, by omega⟩
theorem GrantTells_ok {w0 : World} {F : List HProp} {a : Option Addr} {c : Nat} {os : List Oc} {q : Ask} (hn : os.length ≤ 9223372036854775807) (hk : ∀ o ∈ os, 0 ≤ o.k ∧ o.k ≤ 255) (hr : RdO w0 F (.slice a os.length c) os.length (os.flatMap ocl)) :
    FnO Try.prog w0 9 [.slice a os.length c, .agg (acl q).toArray] F (fun r _ => r = .bool true) := by
  refine FnO.intro (n := 75) Try.func9 rfl rfl rfl ?_
  refine J.seq ?_
  refine J.region ?_
  refine JL.mem rfl rfl (OpM.box rfl rfl) ?_; rintro _ _ ⟨b3, rfl, rfl⟩
  refine JL.pure rfl rfl (OpP.assign rfl) ?_
  refine JL.nil ?_
  refine J.seq ?_
  refine J.regionD [1, 3, 5] (by kernel_rfl) ?_
  refine DL.pure (i := 0) (by kernel_rfl) (by kernel_rfl) rfl rfl rfl (OpP.fieldAddr rfl) ?_
  refine DL.read (i := 1) (by kernel_rfl) (by kernel_rfl) rfl rfl rfl (fun _ h => h) (OpR.load1 rfl (Cell.row .head rfl)) ?_
  refine DL.pure (i := 2) (by kernel_rfl) (by kernel_rfl) rfl rfl rfl (OpP.fieldAddr rfl) ?_
  refine DL.read (i := 3) (by kernel_rfl) (by kernel_rfl) rfl rfl rfl (fun _ h => h) (OpR.load1 rfl (Cell.row .head rfl)) ?_
  refine DL.pure (i := 4) (by kernel_rfl) (by kernel_rfl) rfl rfl rfl (OpP.fieldAddr rfl) ?_
  refine DL.read (i := 5) (by kernel_rfl) (by kernel_rfl) rfl rfl rfl (fun _ h => h) (OpR.load1 rfl (Cell.row .head rfl)) ?_
  refine DL.pure (i := 6) (by kernel_rfl) (by kernel_rfl) rfl rfl rfl (OpP.assign rfl) ?_
  refine DL.pure (i := 7) (by kernel_rfl) (by kernel_rfl) rfl rfl rfl (OpP.assign rfl) ?_
  refine DL.pure (i := 8) (by kernel_rfl) (by kernel_rfl) rfl rfl rfl (OpP.assign rfl) ?_
  refine DL.done (by kernel_rfl) ?_
  refine J.seq ?_
  refine J.seq ?_
  refine J.region ?_
  refine JL.step rfl rfl (OpW.call (first := []) (captured := []) inferInstance rfl rfl awake_ok) ?_; rintro r20 _ ⟨rfl, rfl⟩
  refine JL.pure rfl rfl (OpP.notB rfl) ?_
  refine JL.pure rfl rfl (OpP.move rfl) ?_
  refine JL.pure rfl rfl (OpP.move rfl) ?_
  refine JL.step rfl rfl (OpW.call (first := []) (captured := []) inferInstance rfl rfl (few_ok hn (hr.conv fun _ h => Own.pick (pre := [_]) [] rfl h))) ?_; rintro r24 _ ⟨b, ⟨rfl, ⟨rfl, h24⟩⟩⟩
  refine JL.pure rfl rfl (OpP.notB rfl) ?_
  refine JL.pure rfl rfl (OpP.pickF rfl rfl) ?_
  refine JL.pure rfl rfl (OpP.move rfl) ?_
  refine JL.splitAt 27 rfl (fun h27 => ?_) (fun h27 => ?_)
  focus
    refine JL.skip rfl rfl ?_
    refine JL.skip rfl rfl ?_
    refine JL.skip rfl rfl ?_
    refine JL.pure rfl rfl (OpP.pickT rfl rfl) ?_
    refine JL.nil ?_
    refine J.condT rfl ?_
    refine J.seq ?_
    refine J.region ?_
    refine JL.step rfl rfl (OpW.call (first := []) (captured := []) inferInstance rfl rfl awake_ok) ?_; rintro r32 _ ⟨rfl, rfl⟩
    refine JL.pure rfl rfl (OpP.assign rfl) ?_
    refine JL.nil ?_
    refine J.ret1 rfl rfl ?_
  rotate_left 1
  focus
    refine JL.pure rfl rfl (OpP.move rfl) ?_
    refine JL.pure rfl rfl (OpP.lenStr rfl rfl) ?_
    refine JL.dec rfl rfl (OpP.gtr rfl rfl) (fun h30 => ?_) (fun h30 => ?_)
    focus
      refine JL.pure rfl rfl (OpP.pickF rfl rfl) ?_
      refine JL.nil ?_
      refine J.condT rfl ?_
      refine J.seq ?_
      refine J.region ?_
      refine JL.step rfl rfl (OpW.call (first := []) (captured := []) inferInstance rfl rfl awake_ok) ?_; rintro r32 _ ⟨rfl, rfl⟩
      refine JL.pure rfl rfl (OpP.assign rfl) ?_
      refine JL.nil ?_
      refine J.ret1 rfl rfl ?_
    rotate_left 1
    focus
      refine JL.pure rfl rfl (OpP.pickF rfl rfl) ?_
      refine JL.nil ?_
      refine J.condF rfl ?_
      refine J.skip ?_
    rotate_left 1
  rotate_left 2
  · rfl
  · rfl
  have hfw := h24 (by simpa using h27)
  have hm := fun (l : List HProp) (hl : RdO w0 l (.slice a os.length c) os.length (os.flatMap ocl)) => made_ok (by omega) (ocs_ok hk hfw) hl
  have hI := madeF_inv os
  generalize madeF os = gs at *
  unfold ledL at hm
  refine J.seq ?_
  refine J.region ?_
  refine JL.pure rfl rfl (OpP.move rfl) ?_
  refine JL.step rfl rfl (OpW.call (first := []) (captured := []) inferInstance rfl rfl (hm _ (hr.conv fun _ h => Own.pick (pre := [_]) [] rfl h))) ?_; rintro r35 _ ⟨x, ⟨a1, ⟨c1, ⟨a2, ⟨c2, ⟨rfl, rfl⟩⟩⟩⟩⟩⟩
  refine JL.pure rfl rfl (OpP.move rfl) ?_
  refine JL.pure rfl rfl (OpP.extract rfl rfl) ?_
  refine JL.pure rfl rfl (OpP.extract rfl rfl) ?_
  refine JL.pure rfl rfl (OpP.assign rfl) ?_
  refine JL.pure rfl rfl (OpP.assign rfl) ?_
  refine JL.nil ?_
  have hLed : Led w0 (row x 82 [.slice a1 gs.length c1] :: own 62 7 (.slice a1 gs.length c1) gs.length (gs.flatMap gcl) :: own 62 7 (.slice a2 gs.length c2) gs.length (gs.flatMap gcl) :: row b3 42 (acl q) :: F) x a1 c1 gs := led_of
  have hA := fun (l : List HProp) (hl : Led w0 l x a1 c1 gs) => auth_ok (now := q.now) (who := q.who) hl hI.wf hI.dep
  have hB := fun (l : List HProp) (hl : RdO w0 l (.slice a2 gs.length c2) gs.length (gs.flatMap gcl)) => refAuth_ok (now := q.now) (who := q.who) hl hI.wf hI.dep
  have hC := fun (l : List HProp) (hl : Led w0 l x a1 c1 gs) => alive_ok (now := q.now) (n := q.num) hl hI.wf
  have hD := fun (l : List HProp) (hl : RdO w0 l (.slice a2 gs.length c2) gs.length (gs.flatMap gcl)) => refAlive_ok (now := q.now) hl hI.wf q.num.toNat q.num (Nat.le_refl _)
  refine J.seq ?_
  refine J.region ?_
  refine JL.pure rfl rfl (OpP.move rfl) ?_
  refine JL.pure rfl rfl (OpP.move rfl) ?_
  refine JL.pure rfl rfl (OpP.move rfl) ?_
  refine JL.step rfl rfl (OpW.call (first := []) (captured := []) inferInstance rfl rfl (hA _ hLed)) ?_; rintro r42 _ ⟨rfl, rfl⟩
  refine JL.pure rfl rfl (OpP.move rfl) ?_
  refine JL.pure rfl rfl (OpP.extract rfl rfl) ?_
  refine JL.pure rfl rfl (OpP.extract rfl rfl) ?_
  refine JL.pure rfl rfl (OpP.assign rfl) ?_
  refine JL.pure rfl rfl (OpP.assign rfl) ?_
  refine JL.nil ?_
  refine J.seq ?_
  refine J.region ?_
  refine JL.pure rfl rfl (OpP.move rfl) ?_
  refine JL.pure rfl rfl (OpP.move rfl) ?_
  refine JL.pure rfl rfl (OpP.move rfl) ?_
  refine JL.step rfl rfl (OpW.call (first := []) (captured := []) inferInstance rfl rfl (hB _ (RdO.own (.tail (.tail .head))))) ?_; rintro r49 _ ⟨rfl, rfl⟩
  refine JL.pure rfl rfl (OpP.move rfl) ?_
  refine JL.pure rfl rfl (OpP.extract rfl rfl) ?_
  refine JL.pure rfl rfl (OpP.extract rfl rfl) ?_
  refine JL.pure rfl rfl (OpP.assign rfl) ?_
  refine JL.pure rfl rfl (OpP.assign rfl) ?_
  refine JL.nil ?_
  refine J.seq ?_
  refine J.region ?_
  refine JL.pure rfl rfl (OpP.move rfl) ?_
  refine JL.pure rfl rfl (OpP.move rfl) ?_
  refine JL.dec rfl rfl (OpP.eqBool rfl rfl) (fun h54 => ?_) (fun h54 => ?_)
  focus
    refine JL.pure rfl rfl (OpP.move rfl) ?_
    refine JL.pure rfl rfl (OpP.move rfl) ?_
    refine JL.pure rfl rfl (OpP.notB rfl) ?_
    refine JL.pure rfl rfl (OpP.move rfl) ?_
    refine JL.splitAt 58 rfl (fun h58 => ?_) (fun h58 => ?_)
    focus
      refine JL.skip rfl rfl ?_
      refine JL.skip rfl rfl ?_
      refine JL.skip rfl rfl ?_
      refine JL.pure rfl rfl (OpP.pickT rfl rfl) ?_
      refine JL.pure rfl rfl (OpP.pickT rfl rfl) ?_
      refine JL.pure rfl rfl (OpP.move rfl) ?_
      refine JL.pure rfl rfl (OpP.move rfl) ?_
      refine JL.pure rfl rfl (OpP.move rfl) ?_
      refine JL.pure rfl rfl (OpP.move rfl) ?_
      refine JL.step rfl rfl (OpW.call (first := []) (captured := []) inferInstance rfl rfl (hC _ hLed)) ?_; rintro r68 _ ⟨rfl, rfl⟩
      refine JL.pure rfl rfl (OpP.move rfl) ?_
      refine JL.pure rfl rfl (OpP.move rfl) ?_
      refine JL.pure rfl rfl (OpP.move rfl) ?_
      refine JL.step rfl rfl (OpW.call (first := []) (captured := []) inferInstance rfl rfl (hD _ (RdO.own (.tail (.tail .head))))) ?_; rintro r72 _ ⟨rfl, rfl⟩
      refine JL.dec rfl rfl (OpP.eqBool rfl rfl) (fun h73 => ?_) (fun h73 => ?_)
      focus
        refine JL.pure rfl rfl (OpP.pickT rfl rfl) ?_
        refine JL.pure rfl rfl (OpP.assign rfl) ?_
        refine JL.nil ?_
        refine J.ret1 rfl rfl ?_
      rotate_left 1
      focus
        refine JL.pure rfl rfl (OpP.pickT rfl rfl) ?_
        refine JL.pure rfl rfl (OpP.assign rfl) ?_
        refine JL.nil ?_
        refine J.ret1 rfl rfl ?_
      rotate_left 1
    rotate_left 2
    focus
      refine JL.pure rfl rfl (OpP.move rfl) ?_
      refine JL.pure rfl rfl (OpP.move rfl) ?_
      refine JL.decT rfl rfl (OpP.eql rfl rfl) (by omega) ?_
      refine JL.pure rfl rfl (OpP.pickF rfl rfl) ?_
      refine JL.pure rfl rfl (OpP.pickT rfl rfl) ?_
      refine JL.pure rfl rfl (OpP.move rfl) ?_
      refine JL.pure rfl rfl (OpP.move rfl) ?_
      refine JL.pure rfl rfl (OpP.move rfl) ?_
      refine JL.pure rfl rfl (OpP.move rfl) ?_
      refine JL.step rfl rfl (OpW.call (first := []) (captured := []) inferInstance rfl rfl (hC _ hLed)) ?_; rintro r68 _ ⟨rfl, rfl⟩
      refine JL.pure rfl rfl (OpP.move rfl) ?_
      refine JL.pure rfl rfl (OpP.move rfl) ?_
      refine JL.pure rfl rfl (OpP.move rfl) ?_
      refine JL.step rfl rfl (OpW.call (first := []) (captured := []) inferInstance rfl rfl (hD _ (RdO.own (.tail (.tail .head))))) ?_; rintro r72 _ ⟨rfl, rfl⟩
      refine JL.dec rfl rfl (OpP.eqBool rfl rfl) (fun h73 => ?_) (fun h73 => ?_)
      focus
        refine JL.pure rfl rfl (OpP.pickT rfl rfl) ?_
        refine JL.pure rfl rfl (OpP.assign rfl) ?_
        refine JL.nil ?_
        refine J.ret1 rfl rfl ?_
      rotate_left 1
      focus
        refine JL.pure rfl rfl (OpP.pickT rfl rfl) ?_
        refine JL.pure rfl rfl (OpP.assign rfl) ?_
        refine JL.nil ?_
        refine J.ret1 rfl rfl ?_
      rotate_left 1
    rotate_left 2
  rotate_left 4
  focus
    refine JL.pure rfl rfl (OpP.move rfl) ?_
    refine JL.skip rfl rfl ?_
    refine JL.skip rfl rfl ?_
    refine JL.skip rfl rfl ?_
    refine JL.skip rfl rfl ?_
    refine JL.skip rfl rfl ?_
    refine JL.skip rfl rfl ?_
    refine JL.skip rfl rfl ?_
    refine JL.pure rfl rfl (OpP.pickF rfl rfl) ?_
    refine JL.pure rfl rfl (OpP.move rfl) ?_
    refine JL.skip rfl rfl ?_
    refine JL.skip rfl rfl ?_
    refine JL.skip rfl rfl ?_
    refine JL.skip rfl rfl ?_
    refine JL.skip rfl rfl ?_
    refine JL.skip rfl rfl ?_
    refine JL.skip rfl rfl ?_
    refine JL.skip rfl rfl ?_
    refine JL.skip rfl rfl ?_
    refine JL.pure rfl rfl (OpP.pickF rfl rfl) ?_
    refine JL.pure rfl rfl (OpP.assign rfl) ?_
    refine JL.nil ?_
    refine J.ret1 rfl rfl ?_
  rotate_left 1
  all_goals first | rfl | (exfalso; simp_all; done)
theorem GrantTells_law {W : World} {a : Option Addr} {n c : Nat} {q : Array Value} (h : Fm Try.prog W 40 [.slice a n c]) (hq : Fm Try.prog W 42 q.toList) :
    Calls Try.prog 9 #[.slice a n c, .agg q] W fun e w' => e = .returned (.bool true) ∧ Below W.heap.size W w' := by
  obtain ⟨os, ho, hn, hr⟩ := Fm.rows (f := ocl) (Q := fun o => 0 ≤ o.k ∧ o.k ≤ 255) (e := 57) (by kernel_rfl) (sz := 6) (by kernel_rfl) (by decide) h fun cs _ hf => Fm.oc hf
  obtain ⟨s, hs, _⟩ := Fm.ask hq
  obtain rfl : q = (acl s).toArray := Array.toList_inj.1 hs
  obtain ⟨a', c', e⟩ := (hr []).lit
  cases e
  have hm2 : maxLen ≤ 9223372036854775807 := by decide
  exact FnO.law (GrantTells_ok (by omega) (fun o h => (ho o h).1) (hr []).o) (Own.nil W)
end Go.Proofs.C

-- seat c
namespace Go.Proofs.C
open Go Go.Gp Go.RowKit

theorem maxF_ge : ∀ (l : List Gr) (b g : Gr), g ∈ b :: l → g.dep ≤ (maxF b l).dep
  | [], b, g, h => by cases h with | head => exact Int.le_refl _ | tail _ h => cases h
  | x :: l, b, g, h => by
    rw [maxF]
    have h1 := maxF_ge l (if b.dep < x.dep then x else b)
    rcases List.mem_cons.1 h with rfl | h
    · refine Int.le_trans ?_ (h1 _ (.head _))
      split <;> omega
    · rcases List.mem_cons.1 h with rfl | h
      · refine Int.le_trans ?_ (h1 _ (.head _))
        split <;> omega
      · exact h1 g (.tail _ h)
theorem topG_sub {hs ks : List Gr} (h : ∀ g ∈ hs, g ∈ ks) (h1 : (topG hs).2 = true) : (topG ks).2 = true ∧ (topG hs).1 ≤ (topG ks).1 := by
  cases hs with
  | nil => cases h1
  | cons a l =>
    have hm := h _ (maxF_mem l a)
    cases ks with
    | nil => cases hm
    | cons b k => exact ⟨rfl, maxF_ge k b _ hm⟩
theorem alive_mono {gs : List Gr} {now more n : Int} (h1 : timeP now) (h2 : 0 ≤ more) (h : aliveP gs (now + more) n) : aliveP gs now n := by
  refine ⟨h1, h.2.1, ?_⟩
  have h3 := h.2.2
  rw [List.all_eq_true] at h3 ⊢
  intro g hg
  have := h3 g hg
  simp [deadB] at this ⊢
  exact ⟨this.1, by omega⟩
theorem auth_mono {gs : List Gr} {now more : Int} {who : Str} (h1 : timeP now) (h2 : 0 ≤ more) (h : (authF gs (now + more) who).2 = true) : (authF gs now who).2 = true ∧ (authF gs (now + more) who).1 ≤ (authF gs now who).1 := by
  by_cases hw : who = rootS
  · rw [authF, authF, if_pos hw, if_pos hw]
    exact ⟨decide_eq_true h1, Int.le_refl _⟩
  · rw [authF, if_neg hw] at h
    rw [authF, authF, if_neg hw, if_neg hw]
    refine topG_sub (fun g hg => ?_) h
    obtain ⟨g1, g2⟩ := List.mem_filter.1 hg
    refine List.mem_filter.2 ⟨g1, ?_⟩
    simp only [hasB, Bool.and_eq_true, decide_eq_true_eq] at g2 ⊢
    exact ⟨g2.1, alive_mono h1 h2 g2.2⟩
theorem GrantLater_ok {w0 : World} {F : List HProp} {a : Option Addr} {c : Nat} {os : List Oc} {q : Ask} (hn : os.length ≤ 9223372036854775807) (hk : ∀ o ∈ os, 0 ≤ o.k ∧ o.k ≤ 255) (hr : RdO w0 F (.slice a os.length c) os.length (os.flatMap ocl)) :
    FnO Try.prog w0 10 [.slice a os.length c, .agg (acl q).toArray] F (fun r _ => r = .bool true) := by
  refine FnO.intro (n := 99) Try.func10 rfl rfl rfl ?_
  refine J.seq ?_
  refine J.region ?_
  refine JL.mem rfl rfl (OpM.box rfl rfl) ?_; rintro _ _ ⟨b3, rfl, rfl⟩
  refine JL.pure rfl rfl (OpP.assign rfl) ?_
  refine JL.nil ?_
  refine J.seq ?_
  refine J.regionD [1, 3, 5, 7] (by kernel_rfl) ?_
  refine DL.pure (i := 0) (by kernel_rfl) (by kernel_rfl) rfl rfl rfl (OpP.fieldAddr rfl) ?_
  refine DL.read (i := 1) (by kernel_rfl) (by kernel_rfl) rfl rfl rfl (fun _ h => h) (OpR.load1 rfl (Cell.row .head rfl)) ?_
  refine DL.pure (i := 2) (by kernel_rfl) (by kernel_rfl) rfl rfl rfl (OpP.fieldAddr rfl) ?_
  refine DL.read (i := 3) (by kernel_rfl) (by kernel_rfl) rfl rfl rfl (fun _ h => h) (OpR.load1 rfl (Cell.row .head rfl)) ?_
  refine DL.pure (i := 4) (by kernel_rfl) (by kernel_rfl) rfl rfl rfl (OpP.fieldAddr rfl) ?_
  refine DL.read (i := 5) (by kernel_rfl) (by kernel_rfl) rfl rfl rfl (fun _ h => h) (OpR.load1 rfl (Cell.row .head rfl)) ?_
  refine DL.pure (i := 6) (by kernel_rfl) (by kernel_rfl) rfl rfl rfl (OpP.fieldAddr rfl) ?_
  refine DL.read (i := 7) (by kernel_rfl) (by kernel_rfl) rfl rfl rfl (fun _ h => h) (OpR.load1 rfl (Cell.row .head rfl)) ?_
  refine DL.pure (i := 8) (by kernel_rfl) (by kernel_rfl) rfl rfl rfl (OpP.assign rfl) ?_
  refine DL.pure (i := 9) (by kernel_rfl) (by kernel_rfl) rfl rfl rfl (OpP.assign rfl) ?_
  refine DL.pure (i := 10) (by kernel_rfl) (by kernel_rfl) rfl rfl rfl (OpP.assign rfl) ?_
  refine DL.pure (i := 11) (by kernel_rfl) (by kernel_rfl) rfl rfl rfl (OpP.assign rfl) ?_
  refine DL.done (by kernel_rfl) ?_
  refine J.seq ?_
  refine J.seq ?_
  refine J.region ?_
  refine JL.step rfl rfl (OpW.call (first := []) (captured := []) inferInstance rfl rfl awake_ok) ?_; rintro r23 _ ⟨rfl, rfl⟩
  refine JL.pure rfl rfl (OpP.notB rfl) ?_
  refine JL.pure rfl rfl (OpP.move rfl) ?_
  refine JL.pure rfl rfl (OpP.move rfl) ?_
  refine JL.step rfl rfl (OpW.call (first := []) (captured := []) inferInstance rfl rfl (few_ok hn (hr.conv fun _ h => Own.pick (pre := [_]) [] rfl h))) ?_; rintro r27 _ ⟨b, ⟨rfl, ⟨rfl, h27⟩⟩⟩
  refine JL.pure rfl rfl (OpP.notB rfl) ?_
  refine JL.pure rfl rfl (OpP.pickF rfl rfl) ?_
  refine JL.pure rfl rfl (OpP.move rfl) ?_
  refine JL.splitAt 30 rfl (fun h30 => ?_) (fun h30 => ?_)
  focus
    refine JL.skip rfl rfl ?_
    refine JL.skip rfl rfl ?_
    refine JL.skip rfl rfl ?_
    refine JL.pure rfl rfl (OpP.pickT rfl rfl) ?_
    refine JL.pure rfl rfl (OpP.move rfl) ?_
    refine JL.skip rfl rfl ?_
    refine JL.skip rfl rfl ?_
    refine JL.skip rfl rfl ?_
    refine JL.pure rfl rfl (OpP.pickT rfl rfl) ?_
    refine JL.pure rfl rfl (OpP.move rfl) ?_
    refine JL.skip rfl rfl ?_
    refine JL.skip rfl rfl ?_
    refine JL.skip rfl rfl ?_
    refine JL.pure rfl rfl (OpP.pickT rfl rfl) ?_
    refine JL.pure rfl rfl (OpP.move rfl) ?_
    refine JL.skip rfl rfl ?_
    refine JL.skip rfl rfl ?_
    refine JL.skip rfl rfl ?_
    refine JL.skip rfl rfl ?_
    refine JL.skip rfl rfl ?_
    refine JL.pure rfl rfl (OpP.pickT rfl rfl) ?_
    refine JL.nil ?_
    refine J.condT rfl ?_
    refine J.seq ?_
    refine J.region ?_
    refine JL.step rfl rfl (OpW.call (first := []) (captured := []) inferInstance rfl rfl awake_ok) ?_; rintro r52 _ ⟨rfl, rfl⟩
    refine JL.pure rfl rfl (OpP.assign rfl) ?_
    refine JL.nil ?_
    refine J.ret1 rfl rfl ?_
  rotate_left 1
  focus
    refine JL.pure rfl rfl (OpP.move rfl) ?_
    refine JL.pure rfl rfl (OpP.lenStr rfl rfl) ?_
    refine JL.dec rfl rfl (OpP.gtr rfl rfl) (fun h33 => ?_) (fun h33 => ?_)
    focus
      refine JL.pure rfl rfl (OpP.pickF rfl rfl) ?_
      refine JL.pure rfl rfl (OpP.move rfl) ?_
      refine JL.skip rfl rfl ?_
      refine JL.skip rfl rfl ?_
      refine JL.skip rfl rfl ?_
      refine JL.pure rfl rfl (OpP.pickT rfl rfl) ?_
      refine JL.pure rfl rfl (OpP.move rfl) ?_
      refine JL.skip rfl rfl ?_
      refine JL.skip rfl rfl ?_
      refine JL.skip rfl rfl ?_
      refine JL.pure rfl rfl (OpP.pickT rfl rfl) ?_
      refine JL.pure rfl rfl (OpP.move rfl) ?_
      refine JL.skip rfl rfl ?_
      refine JL.skip rfl rfl ?_
      refine JL.skip rfl rfl ?_
      refine JL.skip rfl rfl ?_
      refine JL.skip rfl rfl ?_
      refine JL.pure rfl rfl (OpP.pickT rfl rfl) ?_
      refine JL.nil ?_
      refine J.condT rfl ?_
      refine J.seq ?_
      refine J.region ?_
      refine JL.step rfl rfl (OpW.call (first := []) (captured := []) inferInstance rfl rfl awake_ok) ?_; rintro r52 _ ⟨rfl, rfl⟩
      refine JL.pure rfl rfl (OpP.assign rfl) ?_
      refine JL.nil ?_
      refine J.ret1 rfl rfl ?_
    rotate_left 1
    focus
      refine JL.pure rfl rfl (OpP.pickF rfl rfl) ?_
      refine JL.pure rfl rfl (OpP.move rfl) ?_
      refine JL.pure rfl rfl (OpP.move rfl) ?_
      refine JL.step rfl rfl (OpW.call (first := []) (captured := []) inferInstance rfl rfl Time_ok) ?_; rintro r37 _ ⟨rfl, rfl⟩
      refine JL.pure rfl rfl (OpP.notB rfl) ?_
      refine JL.pure rfl rfl (OpP.pickF rfl rfl) ?_
      refine JL.pure rfl rfl (OpP.move rfl) ?_
      refine JL.splitAt 40 rfl (fun h40 => ?_) (fun h40 => ?_)
      focus
        refine JL.skip rfl rfl ?_
        refine JL.skip rfl rfl ?_
        refine JL.skip rfl rfl ?_
        refine JL.pure rfl rfl (OpP.pickT rfl rfl) ?_
        refine JL.pure rfl rfl (OpP.move rfl) ?_
        refine JL.skip rfl rfl ?_
        refine JL.skip rfl rfl ?_
        refine JL.skip rfl rfl ?_
        refine JL.skip rfl rfl ?_
        refine JL.skip rfl rfl ?_
        refine JL.pure rfl rfl (OpP.pickT rfl rfl) ?_
        refine JL.nil ?_
        refine J.condT rfl ?_
        refine J.seq ?_
        refine J.region ?_
        refine JL.step rfl rfl (OpW.call (first := []) (captured := []) inferInstance rfl rfl awake_ok) ?_; rintro r52 _ ⟨rfl, rfl⟩
        refine JL.pure rfl rfl (OpP.assign rfl) ?_
        refine JL.nil ?_
        refine J.ret1 rfl rfl ?_
      rotate_left 1
      focus
        refine JL.pure rfl rfl (OpP.move rfl) ?_
        refine JL.step rfl rfl (OpW.call (first := []) (captured := []) inferInstance rfl rfl Time_ok) ?_; rintro r42 _ ⟨rfl, rfl⟩
        refine JL.pure rfl rfl (OpP.notB rfl) ?_
        refine JL.pure rfl rfl (OpP.pickF rfl rfl) ?_
        refine JL.pure rfl rfl (OpP.move rfl) ?_
        refine JL.splitAt 45 rfl (fun h45 => ?_) (fun h45 => ?_)
        focus
          refine JL.skip rfl rfl ?_
          refine JL.skip rfl rfl ?_
          refine JL.skip rfl rfl ?_
          refine JL.skip rfl rfl ?_
          refine JL.skip rfl rfl ?_
          refine JL.pure rfl rfl (OpP.pickT rfl rfl) ?_
          refine JL.nil ?_
          refine J.condT rfl ?_
          refine J.seq ?_
          refine J.region ?_
          refine JL.step rfl rfl (OpW.call (first := []) (captured := []) inferInstance rfl rfl awake_ok) ?_; rintro r52 _ ⟨rfl, rfl⟩
          refine JL.pure rfl rfl (OpP.assign rfl) ?_
          refine JL.nil ?_
          refine J.ret1 rfl rfl ?_
        rotate_left 1
        focus
          refine JL.pure rfl rfl (OpP.move rfl) ?_
          refine JL.pure rfl rfl (OpP.move rfl) ?_
          refine JL.pure rfl rfl (OpP.add rfl rfl) ?_
          refine JL.step rfl rfl (OpW.call (first := []) (captured := []) inferInstance rfl rfl Time_ok) ?_; rintro r49 _ ⟨rfl, rfl⟩
          refine JL.pure rfl rfl (OpP.notB rfl) ?_
          refine JL.pure rfl rfl (OpP.pickF rfl rfl) ?_
          refine JL.nil ?_
          refine J.splitAt 51 rfl (fun h51 => ?_) (fun h51 => ?_)
          focus
            refine J.condT rfl ?_
            refine J.seq ?_
            refine J.region ?_
            refine JL.step rfl rfl (OpW.call (first := []) (captured := []) inferInstance rfl rfl awake_ok) ?_; rintro r52 _ ⟨rfl, rfl⟩
            refine JL.pure rfl rfl (OpP.assign rfl) ?_
            refine JL.nil ?_
            refine J.ret1 rfl rfl ?_
          rotate_left 1
          focus
            refine J.condF rfl ?_
            refine J.skip ?_
          rotate_left 1
        rotate_left 2
      rotate_left 3
    rotate_left 4
  rotate_left 5
  iterate 5
    · rfl
  have ht1 : 0 ≤ q.now ∧ q.now ≤ 1099511627776 := by simp_all
  have ht2 : 0 ≤ q.more ∧ q.more ≤ 1099511627776 := by simp_all
  have hfw := h27 (by simpa using h30)
  have hm := fun (l : List HProp) (hl : RdO w0 l (.slice a os.length c) os.length (os.flatMap ocl)) => made_ok (by omega) (ocs_ok hk hfw) hl
  have hI := madeF_inv os
  generalize madeF os = gs at *
  unfold ledL at hm
  refine J.seq ?_
  refine J.region ?_
  refine JL.pure rfl rfl (OpP.move rfl) ?_
  refine JL.step rfl rfl (OpW.call (first := []) (captured := []) inferInstance rfl rfl (hm _ (hr.conv fun _ h => Own.pick (pre := [_]) [] rfl h))) ?_; rintro r55 _ ⟨x, ⟨a1, ⟨c1, ⟨a2, ⟨c2, ⟨rfl, rfl⟩⟩⟩⟩⟩⟩
  refine JL.pure rfl rfl (OpP.move rfl) ?_
  refine JL.pure rfl rfl (OpP.extract rfl rfl) ?_
  refine JL.pure rfl rfl (OpP.extract rfl rfl) ?_
  refine JL.pure rfl rfl (OpP.assign rfl) ?_
  refine JL.pure rfl rfl (OpP.assign rfl) ?_
  refine JL.nil ?_
  have hLed : Led w0 (row x 82 [.slice a1 gs.length c1] :: own 62 7 (.slice a1 gs.length c1) gs.length (gs.flatMap gcl) :: own 62 7 (.slice a2 gs.length c2) gs.length (gs.flatMap gcl) :: row b3 42 (acl q) :: F) x a1 c1 gs := led_of
  have hA := fun (l : List HProp) (hl : Led w0 l x a1 c1 gs) => auth_ok (now := q.now) (who := q.who) hl hI.wf hI.dep
  have hB := fun (l : List HProp) (hl : Led w0 l x a1 c1 gs) => auth_ok (now := q.now + q.more) (who := q.who) hl hI.wf hI.dep
  have hC := fun (l : List HProp) (hl : Led w0 l x a1 c1 gs) => alive_ok (now := q.now) (n := q.num) hl hI.wf
  have hD := fun (l : List HProp) (hl : Led w0 l x a1 c1 gs) => alive_ok (now := q.now + q.more) (n := q.num) hl hI.wf
  have m1 := alive_mono (gs := gs) (n := q.num) (show timeP q.now from ht1) ht2.1
  have m2 := auth_mono (gs := gs) (who := q.who) (show timeP q.now from ht1) ht2.1
  refine J.seq ?_
  refine J.region ?_
  refine JL.pure rfl rfl (OpP.move rfl) ?_
  refine JL.pure rfl rfl (OpP.move rfl) ?_
  refine JL.pure rfl rfl (OpP.move rfl) ?_
  refine JL.step rfl rfl (OpW.call (first := []) (captured := []) inferInstance rfl rfl (hA _ hLed)) ?_; rintro r62 _ ⟨rfl, rfl⟩
  refine JL.pure rfl rfl (OpP.move rfl) ?_
  refine JL.pure rfl rfl (OpP.extract rfl rfl) ?_
  refine JL.pure rfl rfl (OpP.extract rfl rfl) ?_
  refine JL.pure rfl rfl (OpP.assign rfl) ?_
  refine JL.pure rfl rfl (OpP.assign rfl) ?_
  refine JL.nil ?_
  refine J.seq ?_
  refine J.region ?_
  refine JL.pure rfl rfl (OpP.move rfl) ?_
  refine JL.pure rfl rfl (OpP.move rfl) ?_
  refine JL.pure rfl rfl (OpP.move rfl) ?_
  refine JL.pure rfl rfl (OpP.addI rfl rfl (by omega) (by omega)) ?_
  refine JL.pure rfl rfl (OpP.move rfl) ?_
  refine JL.step rfl rfl (OpW.call (first := []) (captured := []) inferInstance rfl rfl (hB _ hLed)) ?_; rintro r71 _ ⟨rfl, rfl⟩
  refine JL.pure rfl rfl (OpP.move rfl) ?_
  refine JL.pure rfl rfl (OpP.extract rfl rfl) ?_
  refine JL.pure rfl rfl (OpP.extract rfl rfl) ?_
  refine JL.pure rfl rfl (OpP.assign rfl) ?_
  refine JL.pure rfl rfl (OpP.assign rfl) ?_
  refine JL.nil ?_
  refine J.seq ?_
  refine J.region ?_
  refine JL.pure rfl rfl (OpP.move rfl) ?_
  refine JL.pure rfl rfl (OpP.move rfl) ?_
  refine JL.pure rfl rfl (OpP.move rfl) ?_
  refine JL.pure rfl rfl (OpP.addI rfl rfl (by omega) (by omega)) ?_
  refine JL.pure rfl rfl (OpP.move rfl) ?_
  refine JL.step rfl rfl (OpW.call (first := []) (captured := []) inferInstance rfl rfl (hD _ hLed)) ?_; rintro r79 _ ⟨rfl, rfl⟩
  refine JL.pure rfl rfl (OpP.notB rfl) ?_
  refine JL.pure rfl rfl (OpP.move rfl) ?_
  refine JL.splitAt 81 rfl (fun h81 => ?_) (fun h81 => ?_)
  focus
    refine JL.skip rfl rfl ?_
    refine JL.skip rfl rfl ?_
    refine JL.skip rfl rfl ?_
    refine JL.skip rfl rfl ?_
    refine JL.pure rfl rfl (OpP.pickT rfl rfl) ?_
    refine JL.pure rfl rfl (OpP.move rfl) ?_
    refine JL.pure rfl rfl (OpP.move rfl) ?_
    refine JL.pure rfl rfl (OpP.notB rfl) ?_
    refine JL.pure rfl rfl (OpP.move rfl) ?_
    refine JL.splitAt 90 rfl (fun h90 => ?_) (fun h90 => ?_)
    focus
      refine JL.skip rfl rfl ?_
      refine JL.skip rfl rfl ?_
      refine JL.skip rfl rfl ?_
      refine JL.skip rfl rfl ?_
      refine JL.skip rfl rfl ?_
      refine JL.skip rfl rfl ?_
      refine JL.pure rfl rfl (OpP.pickT rfl rfl) ?_
      refine JL.pure rfl rfl (OpP.pickT rfl rfl) ?_
      refine JL.pure rfl rfl (OpP.assign rfl) ?_
      refine JL.nil ?_
      refine J.ret1 rfl rfl ?_
    rotate_left 1
    focus
      refine JL.pure rfl rfl (OpP.move rfl) ?_
      refine JL.pure rfl rfl (OpP.move rfl) ?_
      refine JL.splitAt 92 rfl (fun h92 => ?_) (fun h92 => ?_)
      focus
        refine JL.pure rfl rfl (OpP.move rfl) ?_
        refine JL.pure rfl rfl (OpP.move rfl) ?_
        refine JL.dec rfl rfl (OpP.geq rfl rfl) (fun h95 => ?_) (fun h95 => ?_)
        focus
          refine JL.pure rfl rfl (OpP.pickT rfl rfl) ?_
          refine JL.pure rfl rfl (OpP.pickF rfl rfl) ?_
          refine JL.pure rfl rfl (OpP.pickT rfl rfl) ?_
          refine JL.pure rfl rfl (OpP.assign rfl) ?_
          refine JL.nil ?_
          refine J.ret1 rfl rfl ?_
        rotate_left 1
        focus
          refine JL.pure rfl rfl (OpP.pickT rfl rfl) ?_
          refine JL.pure rfl rfl (OpP.pickF rfl rfl) ?_
          refine JL.pure rfl rfl (OpP.pickT rfl rfl) ?_
          refine JL.pure rfl rfl (OpP.assign rfl) ?_
          refine JL.nil ?_
          refine J.ret1 rfl rfl ?_
        rotate_left 1
      rotate_left 2
      focus
        refine JL.skip rfl rfl ?_
        refine JL.skip rfl rfl ?_
        refine JL.skip rfl rfl ?_
        refine JL.pure rfl rfl (OpP.pickF rfl rfl) ?_
        refine JL.pure rfl rfl (OpP.pickF rfl rfl) ?_
        refine JL.pure rfl rfl (OpP.pickT rfl rfl) ?_
        refine JL.pure rfl rfl (OpP.assign rfl) ?_
        refine JL.nil ?_
        refine J.ret1 rfl rfl ?_
      rotate_left 1
    rotate_left 3
  rotate_left 4
  focus
    refine JL.pure rfl rfl (OpP.move rfl) ?_
    refine JL.pure rfl rfl (OpP.move rfl) ?_
    refine JL.pure rfl rfl (OpP.move rfl) ?_
    refine JL.step rfl rfl (OpW.call (first := []) (captured := []) inferInstance rfl rfl (hC _ hLed)) ?_; rintro r85 _ ⟨rfl, rfl⟩
    refine JL.pure rfl rfl (OpP.pickF rfl rfl) ?_
    refine JL.pure rfl rfl (OpP.move rfl) ?_
    refine JL.decAt 87 rfl (fun h87 => ?_) (fun h87 => ?_)
    focus
      refine JL.pure rfl rfl (OpP.move rfl) ?_
      refine JL.pure rfl rfl (OpP.notB rfl) ?_
      refine JL.pure rfl rfl (OpP.move rfl) ?_
      refine JL.splitAt 90 rfl (fun h90 => ?_) (fun h90 => ?_)
      focus
        refine JL.skip rfl rfl ?_
        refine JL.skip rfl rfl ?_
        refine JL.skip rfl rfl ?_
        refine JL.skip rfl rfl ?_
        refine JL.skip rfl rfl ?_
        refine JL.skip rfl rfl ?_
        refine JL.pure rfl rfl (OpP.pickT rfl rfl) ?_
        refine JL.pure rfl rfl (OpP.pickT rfl rfl) ?_
        refine JL.pure rfl rfl (OpP.assign rfl) ?_
        refine JL.nil ?_
        refine J.ret1 rfl rfl ?_
      rotate_left 1
      focus
        refine JL.pure rfl rfl (OpP.move rfl) ?_
        refine JL.pure rfl rfl (OpP.move rfl) ?_
        refine JL.splitAt 92 rfl (fun h92 => ?_) (fun h92 => ?_)
        focus
          refine JL.pure rfl rfl (OpP.move rfl) ?_
          refine JL.pure rfl rfl (OpP.move rfl) ?_
          refine JL.dec rfl rfl (OpP.geq rfl rfl) (fun h95 => ?_) (fun h95 => ?_)
          focus
            refine JL.pure rfl rfl (OpP.pickT rfl rfl) ?_
            refine JL.pure rfl rfl (OpP.pickF rfl rfl) ?_
            refine JL.pure rfl rfl (OpP.pickT rfl rfl) ?_
            refine JL.pure rfl rfl (OpP.assign rfl) ?_
            refine JL.nil ?_
            refine J.ret1 rfl rfl ?_
          rotate_left 1
          focus
            refine JL.pure rfl rfl (OpP.pickT rfl rfl) ?_
            refine JL.pure rfl rfl (OpP.pickF rfl rfl) ?_
            refine JL.pure rfl rfl (OpP.pickT rfl rfl) ?_
            refine JL.pure rfl rfl (OpP.assign rfl) ?_
            refine JL.nil ?_
            refine J.ret1 rfl rfl ?_
          rotate_left 1
        rotate_left 2
        focus
          refine JL.skip rfl rfl ?_
          refine JL.skip rfl rfl ?_
          refine JL.skip rfl rfl ?_
          refine JL.pure rfl rfl (OpP.pickF rfl rfl) ?_
          refine JL.pure rfl rfl (OpP.pickF rfl rfl) ?_
          refine JL.pure rfl rfl (OpP.pickT rfl rfl) ?_
          refine JL.pure rfl rfl (OpP.assign rfl) ?_
          refine JL.nil ?_
          refine J.ret1 rfl rfl ?_
        rotate_left 1
      rotate_left 3
    rotate_left 4
    focus
      refine JL.skip rfl rfl ?_
      refine JL.skip rfl rfl ?_
      refine JL.skip rfl rfl ?_
      refine JL.skip rfl rfl ?_
      refine JL.skip rfl rfl ?_
      refine JL.skip rfl rfl ?_
      refine JL.skip rfl rfl ?_
      refine JL.skip rfl rfl ?_
      refine JL.skip rfl rfl ?_
      refine JL.skip rfl rfl ?_
      refine JL.pure rfl rfl (OpP.pickF rfl rfl) ?_
      refine JL.pure rfl rfl (OpP.assign rfl) ?_
      refine JL.nil ?_
      refine J.ret1 rfl rfl ?_
    rotate_left 1
  rotate_left 5
  clear hA hB hC hD hm hLed hfw h27
  all_goals first | rfl | (exfalso; simp_all; done) | (exfalso; simp_all; omega)
theorem GrantLater_law {W : World} {a : Option Addr} {n c : Nat} {q : Array Value} (h : Fm Try.prog W 40 [.slice a n c]) (hq : Fm Try.prog W 42 q.toList) :
    Calls Try.prog 10 #[.slice a n c, .agg q] W fun e w' => e = .returned (.bool true) ∧ Below W.heap.size W w' := by
  obtain ⟨os, ho, hn, hr⟩ := Fm.rows (f := ocl) (Q := fun o => 0 ≤ o.k ∧ o.k ≤ 255) (e := 57) (by kernel_rfl) (sz := 6) (by kernel_rfl) (by decide) h fun cs _ hf => Fm.oc hf
  obtain ⟨s, hs, _⟩ := Fm.ask hq
  obtain rfl : q = (acl s).toArray := Array.toList_inj.1 hs
  obtain ⟨a', c', e⟩ := (hr []).lit
  cases e
  have hm2 : maxLen ≤ 9223372036854775807 := by decide
  exact FnO.law (GrantLater_ok (by omega) (fun o h => (ho o h).1) (hr []).o) (Own.nil W)
end Go.Proofs.C

-- seat c
namespace Go.Proofs.C
open Go Go.Gp Go.RowKit

instance : KeyT Try.prog 62 3 := ⟨by kernel_rfl, by decide, by kernel_rfl, by kernel_rfl⟩
theorem i64_keys {n : Int} (D : Nat) (t : Nat) (ht : Try.prog.underlying t = some (.int .i64)) (h : -9223372036854775808 ≤ n ∧ n ≤ 9223372036854775807) : Try.prog.keyLits (D + 1) t [.int .i64 n] = some [.int .i64 n] := by
  unfold Program.keyLits
  rw [ht]
  simp [Lit.wf, IntKind.min, IntKind.max, IntKind.signed, IntKind.bits]; omega
theorem gr_keys {gs : List Gr} (hI : Inv gs) {g : Gr} (hg : g ∈ gs) : ∃ la, Try.prog.keyLits 3 62 (gcl g) = some la := by
  obtain ⟨i, hi, h1, ⟨h2, h3⟩, ⟨h4, h5⟩, ⟨_, n1⟩, _, n2⟩ := hI.mem hg
  have hlt := (List.getElem?_eq_some_iff.1 hi).1
  have hlen := hI.len
  obtain ⟨w1, w2, w3⟩ := hI.wf.2 i g hi
  have k3 := fun n h => i64_keys (n := n) 1 3 (by kernel_rfl) h
  have k2 := fun n h => i64_keys (n := n) 1 2 (by kernel_rfl) h
  have k9 : ∀ s : Str, s.size ≤ 64 → ∃ la, Try.prog.keyLits 2 9 [.string s] = some la := fun s hs => by
    unfold Program.keyLits
    rw [Try.underlying9]
    simp; exact Nat.le_trans hs (by decide)
  have k4 : ∀ b : Bool, ∃ la, Try.prog.keyLits 2 4 [.bool b] = some la := fun b => by
    unfold Program.keyLits
    rw [Try.underlying4]
    simp
  obtain ⟨l1, e1⟩ := k9 g.fr n1
  obtain ⟨l2, e2⟩ := k9 g.to n2
  obtain ⟨l3, e3⟩ := k4 g.rev
  have c3 : Try.prog.cellsOf 3 = 1 := by kernel_rfl
  have c2 : Try.prog.cellsOf 2 = 1 := by kernel_rfl
  have c9 : Try.prog.cellsOf 9 = 1 := by kernel_rfl
  have c4 : Try.prog.cellsOf 4 = 1 := by kernel_rfl
  have c62 : Try.prog.cellsOf 62 = 7 := by kernel_rfl
  unfold Program.keyLits
  rw [Try.underlying62]
  simp [c3, c2, c9, c4, c62, e1, e2, e3, k3 g.num (by omega), k3 g.dep (by omega), k3 g.par (by omega), k2 g.til (by omega)]
theorem GrantPlays_ok {w0 : World} {F : List HProp} {a : Option Addr} {c : Nat} {os : List Oc} (hn : os.length ≤ 9223372036854775807) (hk : ∀ o ∈ os, 0 ≤ o.k ∧ o.k ≤ 255) (hr : RdO w0 F (.slice a os.length c) os.length (os.flatMap ocl)) :
    FnO Try.prog w0 11 [.slice a os.length c] F (fun r _ => r = .bool true) := by
  have hlen : ∀ o ∈ os, (ocl o).length = 6 := fun _ _ => rfl
  refine FnO.rd hr fun hr1 => ?_
  refine FnO.intro (n := 78) Try.func11 rfl rfl rfl ?_
  refine J.seq ?_
  refine J.region ?_
  refine JL.pure rfl rfl (OpP.assign rfl) ?_
  refine JL.nil ?_
  refine J.seq ?_
  refine J.seq ?_
  refine J.region ?_
  refine JL.step rfl rfl (OpW.call (first := []) (captured := []) inferInstance rfl rfl awake_ok) ?_; rintro r13 _ ⟨rfl, rfl⟩
  refine JL.pure rfl rfl (OpP.notB rfl) ?_
  refine JL.pure rfl rfl (OpP.move rfl) ?_
  refine JL.pure rfl rfl (OpP.move rfl) ?_
  refine JL.step rfl rfl (OpW.call (first := []) (captured := []) inferInstance rfl rfl (few_ok hn hr)) ?_; rintro r17 _ ⟨b, ⟨rfl, ⟨rfl, h17⟩⟩⟩
  refine JL.pure rfl rfl (OpP.notB rfl) ?_
  refine JL.pure rfl rfl (OpP.pickF rfl rfl) ?_
  refine JL.nil ?_
  refine J.splitAt 19 rfl (fun h19 => ?_) (fun h19 => ?_)
  focus
    refine J.condT rfl ?_
    refine J.seq ?_
    refine J.region ?_
    refine JL.step rfl rfl (OpW.call (first := []) (captured := []) inferInstance rfl rfl awake_ok) ?_; rintro r20 _ ⟨rfl, rfl⟩
    refine JL.pure rfl rfl (OpP.assign rfl) ?_
    refine JL.nil ?_
    refine J.ret1 rfl rfl ?_
  rotate_left 1
  focus
    refine J.condF rfl ?_
    refine J.skip ?_
  rotate_left 1
  · rfl
  rename_i F
  have hfw := h17 (by simpa using h19)
  have hok := ocs_ok hk hfw
  have hN := fun (G : List HProp) => New_ok (w0 := w0) (F := G)
  unfold ledL at hN
  refine J.seq ?_
  refine J.region ?_
  refine JL.step rfl rfl (OpW.call (first := []) (captured := []) inferInstance rfl rfl (hN _)) ?_; rintro r21 _ ⟨y, ⟨rfl, rfl⟩⟩
  refine JL.pure rfl rfl (OpP.assign rfl) ?_
  refine JL.nil ?_
  refine J.seq ?_
  refine J.region ?_
  refine JL.pure rfl rfl (OpP.assign rfl) ?_
  refine JL.nil ?_
  refine J.seq ?_
  refine J.seq ?_
  refine J.region ?_
  refine JL.pure rfl rfl (OpP.assign rfl) ?_
  refine JL.nil ?_
  refine J.block ?_
  refine J.loopI (fun x : Nat × (Value × Value) => os.length - x.1) (fun x => x.1 ≤ os.length ∧ (∃ a c, x.2.1 = .slice a (madeF (os.take x.1)).length c) ∧ ∃ a c, x.2.2 = .slice a (madeF (os.take x.1)).length c)
    (fun z => [(5, .int .i64 (z.1 : Nat)), (4, z.2.2), (3, .pointer (some ⟨y, 0, none⟩)), (0, .slice a os.length c)])
    (fun z => row y 82 [z.2.1] :: own 62 7 z.2.1 (madeF (os.take z.1)).length ((madeF (os.take z.1)).flatMap gcl) :: own 62 7 z.2.2 (madeF (os.take z.1)).length ((madeF (os.take z.1)).flatMap gcl) :: F) (0, .slice none 0 0, .slice none 0 0) ⟨Nat.zero_le _, ⟨none, 0, rfl⟩, none, 0, rfl⟩ (by repeat (first | exact SubEnv.nil | refine SubEnv.cons (by first | rfl | exact congrArg (fun z => some (Value.int .i64 z)) (by omega) | (simp; done)) ?_)) (fun _ h => ?_) (fun ⟨j, u, v⟩ hi back => ?_)
  · exact Own.pick (pre := [_, _, _]) [1, 2, 0] rfl h.own_nil
  dsimp only at hi back ⊢
  obtain ⟨hj, ⟨a1, c1, rfl⟩, a2, c2, rfl⟩ := hi
  by_cases hlt : j < os.length
  · obtain ⟨o, hoj⟩ : ∃ e, os[j]? = some e := ⟨_, List.getElem?_eq_getElem hlt⟩
    have hok := hok o (List.mem_of_getElem? hoj)
    have hnx := madeF_take hoj
    have hI := madeF_inv (os.take j)
    have hI' := madeF_inv (os.take (j + 1))
    rw [hnx] at hI'
    generalize madeF (os.take j) = gs at *
    obtain ⟨ga, pa, qa, ea, ka, hcs⟩ := hr1.pos (by omega)
    cases ea
    have hD := fun (G : List HProp) => Do_ok (w0 := w0) (F := G) (x := y) (a := a1) (c := c1) hI.wf hI.dep hok
    have hE := fun (G : List HProp) => refDo_ok (w0 := w0) (F := G) (a := a2) (c := c2) hI hok
    unfold ledL at hD
    refine J.seq ?_
    refine J.seq ?_
    refine J.region ?_
    refine JL.pure rfl rfl (OpP.move rfl) ?_
    refine JL.pure rfl rfl (OpP.move rfl) ?_
    refine JL.pure rfl rfl (OpP.len rfl rfl) ?_
    refine JL.decT rfl rfl (OpP.lss rfl rfl) (by omega) ?_
    refine JL.nil ?_
    refine J.condT rfl ?_
    refine J.skip ?_
    refine J.seq ?_
    refine J.block ?_
    refine J.seq ?_
    refine J.region ?_
    refine JL.pure rfl rfl (OpP.move rfl) ?_
    refine JL.pure rfl rfl (OpP.move rfl) ?_
    refine JL.pure rfl rfl (OpP.move rfl) ?_
    refine JL.pure rfl rfl (OpP.indexAddr rfl rfl (by omega) (by omega)) ?_
    refine JL.read rfl rfl (OpR.loadN rfl (by apply Cells.conv (fun _ h => Own.pick (pre := [_, _, _]) [] rfl h); apply Cells.chunkAt hcs; (case' h => assumption); (case' hi => assumption); done) (by first | rfl | assumption)) ?_
    refine JL.step rfl rfl (OpW.call (first := []) (captured := []) inferInstance rfl rfl (hD _)) ?_; rintro r34 _ ⟨rfl, ⟨a, ⟨c3, rfl⟩⟩⟩
    refine JL.pure rfl rfl (OpP.move rfl) ?_
    refine JL.pure rfl rfl (OpP.extract rfl rfl) ?_
    refine JL.pure rfl rfl (OpP.extract rfl rfl) ?_
    refine JL.pure rfl rfl (OpP.assign rfl) ?_
    refine JL.pure rfl rfl (OpP.assign rfl) ?_
    refine JL.nil ?_
    refine J.seq ?_
    refine J.region ?_
    refine JL.pure rfl rfl (OpP.move rfl) ?_
    refine JL.pure rfl rfl (OpP.move rfl) ?_
    refine JL.pure rfl rfl (OpP.move rfl) ?_
    refine JL.pure rfl rfl (OpP.indexAddr rfl rfl (by omega) (by omega)) ?_
    refine JL.read rfl rfl (OpR.loadN rfl (by apply Cells.conv (fun _ h => Own.pick (pre := [_, _, _]) [] rfl h); apply Cells.chunkAt hcs; (case' h => assumption); (case' hi => assumption); done) (by first | rfl | assumption)) ?_
    refine JL.f2 ?_; refine JL.step rfl rfl (OpW.call (first := []) (captured := []) inferInstance rfl rfl (hE _)) ?_; rintro r43 _ ⟨a', ⟨c', ⟨rfl, rfl⟩⟩⟩
    refine JL.pure rfl rfl (OpP.move rfl) ?_
    refine JL.pure rfl rfl (OpP.extract rfl rfl) ?_
    refine JL.pure rfl rfl (OpP.extract rfl rfl) ?_
    refine JL.pure rfl rfl (OpP.extract rfl rfl) ?_
    refine JL.pure rfl rfl (OpP.assign rfl) ?_
    refine JL.pure rfl rfl (OpP.assign rfl) ?_
    refine JL.pure rfl rfl (OpP.assign rfl) ?_
    refine JL.nil ?_
    refine J.seq ?_
    refine J.seq ?_
    refine J.region ?_
    refine JL.pure rfl rfl (OpP.move rfl) ?_
    refine JL.pure rfl rfl (OpP.move rfl) ?_
    refine JL.decF rfl rfl (OpP.neq rfl rfl) (by omega) ?_
    refine JL.pure rfl rfl (OpP.move rfl) ?_
    refine JL.pure rfl rfl (OpP.move rfl) ?_
    refine JL.pure rfl rfl (OpP.move rfl) ?_
    refine JL.decF rfl rfl (OpP.neq rfl rfl) (by omega) ?_
    refine JL.pure rfl rfl (OpP.pickF rfl rfl) ?_
    refine JL.nil ?_
    refine J.condF rfl ?_
    refine J.skip ?_
    have hkeys := fun g (hg : g ∈ (doF gs o).1) => gr_keys hI' hg
    have hlk := hI'.len
    generalize (doF gs o).1 = ks at *
    have hLed : Led w0 (own 62 7 (.slice a' ks.length c') ks.length (ks.flatMap gcl) :: row y 82 [.slice a ks.length c3] :: own 62 7 (.slice a ks.length c3) ks.length (ks.flatMap gcl) :: F) y a c3 ks := led_of.conv fun _ h => h.tail
    have hG := fun (l : List HProp) (hl : Led w0 l y a c3 ks) => Grants_ok hl (by omega)
    refine J.seq ?_
    refine J.region ?_
    refine JL.pure rfl rfl (OpP.move rfl) ?_
    refine JL.pure rfl rfl (OpP.assign rfl) ?_
    refine JL.nil ?_
    refine J.seq ?_
    refine J.region ?_
    refine JL.pure rfl rfl (OpP.move rfl) ?_
    refine JL.step rfl rfl (OpW.call (first := []) (captured := []) inferInstance rfl rfl (hG _ hLed)) ?_; rintro r57 _ ⟨a3, ⟨c4, ⟨rfl, rfl⟩⟩⟩
    refine JL.pure rfl rfl (OpP.assign rfl) ?_
    refine JL.nil ?_
    refine J.seq ?_
    refine J.seq ?_
    refine J.region ?_
    refine JL.pure rfl rfl (OpP.move rfl) ?_
    refine JL.pure rfl rfl (OpP.len rfl rfl) ?_
    refine JL.pure rfl rfl (OpP.move rfl) ?_
    refine JL.pure rfl rfl (OpP.len rfl rfl) ?_
    refine JL.decF rfl rfl (OpP.neq rfl rfl) (by omega) ?_
    refine JL.nil ?_
    refine J.condF rfl ?_
    refine J.skip ?_
    refine J.seq ?_
    refine J.region ?_
    refine JL.pure rfl rfl (OpP.assign rfl) ?_
    refine JL.nil ?_
    refine J.block ?_
    refine J.loopI (fun i : Nat => ks.length - i) (fun i => i ≤ ks.length) (fun i => [(12, .int .i64 (i : Nat)), (11, .slice a3 ks.length c4), (4, .slice a' ks.length c'), (5, .int .i64 (j : Nat)), (3, .pointer (some ⟨y, 0, none⟩)), (0, .slice (some ⟨ga, pa, none⟩) os.length c)])
      (fun _ => own 62 7 (.slice a3 ks.length c4) ks.length (ks.flatMap gcl) :: own 62 7 (.slice a' ks.length c') ks.length (ks.flatMap gcl) :: row y 82 [.slice a ks.length c3] :: own 62 7 (.slice a ks.length c3) ks.length (ks.flatMap gcl) :: F) 0 (Nat.zero_le _) (by repeat (first | exact SubEnv.nil | refine SubEnv.cons (by first | rfl | exact congrArg (fun z => some (Value.int .i64 z)) (by omega) | (simp; done)) ?_)) (fun _ h => h) (fun i hi back2 => ?_)
    by_cases hik : i < ks.length
    · obtain ⟨g, hg⟩ : ∃ e, ks[i]? = some e := ⟨_, List.getElem?_eq_getElem hik⟩
      obtain ⟨la, hla⟩ := hkeys g (List.mem_of_getElem? hg)
      have hlen7 : ∀ g ∈ ks, (gcl g).length = 7 := fun _ _ => rfl
      refine J.ownSome .head (by omega) fun g1 p1 ea1 hc1 => ?_
      subst ea1
      refine J.ownSome (.tail .head) (by omega) fun g2 p2 ea2 hc2 => ?_
      subst ea2
      refine J.seq ?_
      refine J.seq ?_
      refine J.region ?_
      refine JL.pure rfl rfl (OpP.move rfl) ?_
      refine JL.pure rfl rfl (OpP.move rfl) ?_
      refine JL.pure rfl rfl (OpP.len rfl rfl) ?_
      refine JL.decT rfl rfl (OpP.lss rfl rfl) (by omega) ?_
      refine JL.nil ?_
      refine J.condT rfl ?_
      refine J.skip ?_
      refine J.seq ?_
      refine J.block ?_
      refine J.seq ?_
      refine J.regionD [3, 7] (by kernel_rfl) ?_
      refine DL.pure (i := 0) (by kernel_rfl) (by kernel_rfl) rfl rfl rfl (OpP.move rfl) ?_
      refine DL.pure (i := 1) (by kernel_rfl) (by kernel_rfl) rfl rfl rfl (OpP.move rfl) ?_
      refine DL.pure (i := 2) (by kernel_rfl) (by kernel_rfl) rfl rfl rfl (OpP.indexAddr rfl rfl (by omega) (by omega)) ?_
      refine DL.read (i := 3) (by kernel_rfl) (by kernel_rfl) rfl rfl rfl (fun _ h => h) (OpR.loadN rfl (by apply Cells.chunkAt (Cells.own .head); (case' h => assumption); (case' hi => assumption); done) (by first | rfl | assumption)) ?_
      refine DL.pure (i := 4) (by kernel_rfl) (by kernel_rfl) rfl rfl rfl (OpP.move rfl) ?_
      refine DL.pure (i := 5) (by kernel_rfl) (by kernel_rfl) rfl rfl rfl (OpP.move rfl) ?_
      refine DL.pure (i := 6) (by kernel_rfl) (by kernel_rfl) rfl rfl rfl (OpP.indexAddr rfl rfl (by omega) (by omega)) ?_
      refine DL.read (i := 7) (by kernel_rfl) (by kernel_rfl) rfl rfl rfl (fun _ h => h) (OpR.loadN rfl (by apply Cells.chunkAt (Cells.own (.tail .head)); (case' h => assumption); (case' hi => assumption); done) (by first | rfl | assumption)) ?_
      refine DL.pure (i := 8) (by kernel_rfl) (by kernel_rfl) rfl rfl rfl (OpP.neLits (p := True) rfl rfl hla hla ⟨fun _ => trivial, fun _ => rfl⟩) ?_
      rw [show decide (¬ True) = false from rfl]
      refine DL.done (by kernel_rfl) ?_
      refine J.condF rfl ?_
      refine J.skip ?_
      refine J.inBlock ?_
      refine J.region ?_
      refine JL.pure rfl rfl (OpP.move rfl) ?_
      refine JL.pure rfl rfl (OpP.addI rfl rfl (by omega) (by omega)) ?_
      refine JL.pure rfl rfl (OpP.assign rfl) ?_
      refine JL.nil ?_
      exact back2 (i + 1) (by omega) (by omega) (by repeat (first | exact SubEnv.nil | refine SubEnv.cons (by first | rfl | exact congrArg (fun z => some (Value.int .i64 z)) (by omega) | (simp; done)) ?_)) (fun _ h => h)
    · refine J.seq ?_
      refine J.seq ?_
      refine J.region ?_
      refine JL.pure rfl rfl (OpP.move rfl) ?_
      refine JL.pure rfl rfl (OpP.move rfl) ?_
      refine JL.pure rfl rfl (OpP.len rfl rfl) ?_
      refine JL.decF rfl rfl (OpP.lss rfl rfl) (by omega) ?_
      refine JL.nil ?_
      refine J.condF rfl ?_
      refine J.exit rfl ?_
      refine J.inBlock ?_
      refine J.region ?_
      refine JL.pure rfl rfl (OpP.move rfl) ?_
      refine JL.pure rfl rfl (OpP.addI rfl rfl (by omega) (by omega)) ?_
      refine JL.pure rfl rfl (OpP.assign rfl) ?_
      refine JL.nil ?_
      refine back (j + 1, .slice a ks.length c3, .slice a' ks.length c') ⟨by dsimp only; omega, ⟨a, c3, by dsimp only; rw [hnx]⟩, a', c', by dsimp only; rw [hnx]⟩ (by dsimp only; omega) (by repeat (first | exact SubEnv.nil | refine SubEnv.cons (by first | rfl | exact congrArg (fun z => some (Value.int .i64 z)) (by omega) | (simp; done)) ?_)) (fun _ h => ?_)
      dsimp only
      rw [hnx]
      exact Own.pick (pre := [_, _, _, _]) [2, 3, 1] rfl h
  · have : j = os.length := by omega
    subst this
    rw [List.take_length]
    refine J.seq ?_
    refine J.seq ?_
    refine J.region ?_
    refine JL.pure rfl rfl (OpP.move rfl) ?_
    refine JL.pure rfl rfl (OpP.move rfl) ?_
    refine JL.pure rfl rfl (OpP.len rfl rfl) ?_
    refine JL.decF rfl rfl (OpP.lss rfl rfl) (by omega) ?_
    refine JL.nil ?_
    refine J.condF rfl ?_
    refine J.exit rfl ?_
    refine J.seq ?_
    refine J.region ?_
    refine JL.pure rfl rfl (OpP.assign rfl) ?_
    refine JL.nil ?_
    refine J.ret1 rfl rfl ?_
    rfl
theorem GrantPlays_law {W : World} {a : Option Addr} {n c : Nat} (h : Fm Try.prog W 40 [.slice a n c]) :
    Calls Try.prog 11 #[.slice a n c] W fun e w' => e = .returned (.bool true) ∧ Below W.heap.size W w' := by
  obtain ⟨os, ho, hn, hr⟩ := Fm.rows (f := ocl) (Q := fun o => 0 ≤ o.k ∧ o.k ≤ 255) (e := 57) (by kernel_rfl) (sz := 6) (by kernel_rfl) (by decide) h fun cs _ hf => Fm.oc hf
  obtain ⟨a', c', e⟩ := (hr []).lit
  cases e
  have hm2 : maxLen ≤ 9223372036854775807 := by decide
  exact FnO.law (GrantPlays_ok (by omega) (fun o h => (ho o h).1) (hr []).o) (Own.nil W)
end Go.Proofs.C
