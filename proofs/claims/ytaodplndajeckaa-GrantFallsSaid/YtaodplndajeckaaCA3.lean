/- A text of the proof of a statement about the given program: its part CA3. No person has read it. -/
import Derived.Test.YtaodplndajeckaaCA2
import Derived.Test.YtaodplndajeckaaCJ2
-- seat c
namespace Go.Proofs.C
open Go Go.Gp Go.RowKit

def revG (k : Int) (g : Gr) : Gr := if g.num = k then { g with rev := true } else g
theorem setRev_map {gs : List Gr} (wf : Wf gs) {k : Int} (hk : 1 ≤ k ∧ k ≤ gs.length) : setRev gs k = gs.map (revG k) := by
  obtain ⟨g, hg⟩ : ∃ g, gs[(k - 1).toNat]? = some g := ⟨_, List.getElem?_eq_getElem (by omega)⟩
  rw [setRev, hg]
  apply List.ext_getElem?
  intro i
  rw [List.getElem?_map]
  by_cases hi : (k - 1).toNat = i
  · subst hi
    rw [List.getElem?_set_self (List.getElem?_eq_some_iff.1 hg).1, hg]
    have := (wf.2 _ _ hg).2.2
    rw [Option.map_some, revG, if_pos (by omega)]
  · rw [List.getElem?_set_ne hi]
    cases hx : gs[i]? with
    | none => rfl
    | some x =>
      have := (wf.2 _ _ hx).2.2
      rw [Option.map_some, revG, if_neg (by omega)]
theorem upF_map {gs : List Gr} {h : Gr → Gr} (hp : ∀ g, (h g).par = g.par) : ∀ (f : Nat) (n : Int), upF (gs.map h) f n = (upF gs f n).map h
  | 0, _ => rfl
  | f + 1, n => by
    rw [upF, upF, List.length_map, List.getElem?_map]
    split
    · cases gs[(n - 1).toNat]? with
      | none => rfl
      | some g => rw [Option.map_some]; dsimp only; rw [hp, upF_map hp f, List.map_cons]
    · rfl
def belowB (gs : List Gr) (k n : Int) : Bool := (upL gs n).any fun g => decide (g.num = k)
theorem alive_rev {gs : List Gr} (wf : Wf gs) {k now n : Int} (hk : 1 ≤ k ∧ k ≤ gs.length) : aliveP (setRev gs k) now n ↔ aliveP gs now n ∧ belowB gs k n = false := by
  unfold aliveP
  rw [setRev_map wf hk, List.length_map, upF_map (h := revG k) (fun g => by unfold revG; split <;> rfl), List.all_map]
  have e : ((upF gs gs.length n).all ((fun g => !deadB now g) ∘ revG k)) = (((upF gs gs.length n).all fun g => !deadB now g) && !belowB gs k n) := by
    rw [belowB, upL]
    generalize upF gs gs.length n = l
    induction l with
    | nil => rfl
    | cons g l ih =>
      rw [List.all_cons, List.all_cons, List.any_cons, ih]
      have : (((fun g => !deadB now g) ∘ revG k) g) = ((!deadB now g) && !decide (g.num = k)) := by
        simp only [Function.comp, revG, deadB]
        by_cases h : g.num = k
        · simp [h]
        · simp [h]
      rw [this]
      cases deadB now g <;> cases decide (g.num = k) <;> simp
  rw [e, Bool.and_eq_true]
  simp [and_assoc]
theorem below_step {gs : List Gr} (wf : Wf gs) {k n : Int} {g : Gr} (h : 1 ≤ n) (hg : gs[(n - 1).toNat]? = some g) : belowB gs k n = (decide (n = k) || belowB gs k g.par) := by
  have := (wf.2 _ _ hg).2.2
  rw [belowB, upL_in wf h hg, List.any_cons, show g.num = n by omega]; rfl
theorem below_out {gs : List Gr} {k n : Int} (h : ¬ (1 ≤ n ∧ n ≤ gs.length)) : belowB gs k n = false := by rw [belowB, upL_out h]; rfl
theorem revF_root {gs : List Gr} {now k : Int} (ht : timeP now) (hk : 1 ≤ k ∧ k ≤ gs.length) : revF gs now k rootS = if revAt gs k = true then 8 else 0 := by
  rw [revF, if_neg (fun q => q ⟨ht, by decide⟩), if_neg (fun q => q hk)]
  by_cases h : revAt gs k = true
  · rw [if_pos h, if_pos h]
  · rw [if_neg h, if_neg h, if_neg (fun q => q (.inl rfl))]
theorem GrantFalls_ok {w0 : World} {F : List HProp} {a : Option Addr} {c : Nat} {os : List Oc} {now num : Int} (hnum : 0 ≤ num ∧ num ≤ 255) (hn : os.length ≤ 9223372036854775807) (hk : ∀ o ∈ os, 0 ≤ o.k ∧ o.k ≤ 255) (hr : RdO w0 F (.slice a os.length c) os.length (os.flatMap ocl)) :
    FnO Try.prog w0 12 [.slice a os.length c, .int .i64 now, .int .u8 num] F (fun r _ => r = .bool true) := by
  obtain ⟨hnum1, hnum2⟩ := hnum
  refine FnO.intro (n := 97) Try.func12 rfl rfl rfl ?_
  refine J.seq ?_
  refine J.region ?_
  refine JL.pure rfl rfl (OpP.assign rfl) ?_
  refine JL.nil ?_
  refine J.seq ?_
  refine J.seq ?_
  refine J.region ?_
  refine JL.step rfl rfl (OpW.call (first := []) (captured := []) inferInstance rfl rfl awake_ok) ?_; rintro r15 _ ⟨rfl, rfl⟩
  refine JL.pure rfl rfl (OpP.notB rfl) ?_
  refine JL.pure rfl rfl (OpP.move rfl) ?_
  refine JL.pure rfl rfl (OpP.move rfl) ?_
  refine JL.step rfl rfl (OpW.call (first := []) (captured := []) inferInstance rfl rfl (few_ok hn hr)) ?_; rintro r19 _ ⟨b, ⟨rfl, ⟨rfl, h19⟩⟩⟩
  refine JL.pure rfl rfl (OpP.notB rfl) ?_
  refine JL.pure rfl rfl (OpP.pickF rfl rfl) ?_
  refine JL.pure rfl rfl (OpP.move rfl) ?_
  refine JL.splitAt 22 rfl (fun h22 => ?_) (fun h22 => ?_)
  focus
    refine JL.skip rfl rfl ?_
    refine JL.skip rfl rfl ?_
    refine JL.skip rfl rfl ?_
    refine JL.pure rfl rfl (OpP.pickT rfl rfl) ?_
    refine JL.nil ?_
    refine J.condT rfl ?_
    refine J.seq ?_
    refine J.region ?_
    refine JL.step rfl rfl (OpW.call (first := []) (captured := []) inferInstance rfl rfl awake_ok) ?_; rintro r27 _ ⟨rfl, rfl⟩
    refine JL.pure rfl rfl (OpP.assign rfl) ?_
    refine JL.nil ?_
    refine J.ret1 rfl rfl ?_
  rotate_left 1
  focus
    refine JL.pure rfl rfl (OpP.move rfl) ?_
    refine JL.step rfl rfl (OpW.call (first := []) (captured := []) inferInstance rfl rfl Time_ok) ?_; rintro r24 _ ⟨rfl, rfl⟩
    refine JL.pure rfl rfl (OpP.notB rfl) ?_
    refine JL.pure rfl rfl (OpP.pickF rfl rfl) ?_
    refine JL.nil ?_
    refine J.splitAt 26 rfl (fun h26 => ?_) (fun h26 => ?_)
    focus
      refine J.condT rfl ?_
      refine J.seq ?_
      refine J.region ?_
      refine JL.step rfl rfl (OpW.call (first := []) (captured := []) inferInstance rfl rfl awake_ok) ?_; rintro r27 _ ⟨rfl, rfl⟩
      refine JL.pure rfl rfl (OpP.assign rfl) ?_
      refine JL.nil ?_
      refine J.ret1 rfl rfl ?_
    rotate_left 1
    focus
      refine J.condF rfl ?_
      refine J.skip ?_
    rotate_left 1
  rotate_left 2
  · rfl
  · rfl
  rename_i F
  have ht : timeP now := by simp_all [timeP]
  have hfw := h19 (by simp_all)
  have hm := fun (l : List HProp) (hl : RdO w0 l (.slice a os.length c) os.length (os.flatMap ocl)) => made_ok (by omega) (ocs_ok hk hfw) hl
  have hI := madeF_inv os
  generalize madeF os = gs at *
  have hlen40 := hI.len
  unfold ledL at hm
  refine J.seq ?_
  refine J.region ?_
  refine JL.pure rfl rfl (OpP.move rfl) ?_
  refine JL.step rfl rfl (OpW.call (first := []) (captured := []) inferInstance rfl rfl (hm _ hr)) ?_; rintro r30 _ ⟨x, ⟨a1, ⟨c1, ⟨a2, ⟨c2, ⟨rfl, rfl⟩⟩⟩⟩⟩⟩
  refine JL.pure rfl rfl (OpP.move rfl) ?_
  refine JL.pure rfl rfl (OpP.extract rfl rfl) ?_
  refine JL.pure rfl rfl (OpP.extract rfl rfl) ?_
  refine JL.pure rfl rfl (OpP.assign rfl) ?_
  refine JL.pure rfl rfl (OpP.assign rfl) ?_
  refine JL.nil ?_
  have hL := fun (l : List HProp) (hl : Led w0 l x a1 c1 gs) => Clone_ok hl (by omega)
  have hG := fun (l : List HProp) (hl : Led w0 l x a1 c1 gs) => Grants_ok hl (by omega)
  unfold ledL at hL
  have hLed : Led w0 (row x 82 [.slice a1 gs.length c1] :: own 62 7 (.slice a1 gs.length c1) gs.length (gs.flatMap gcl) :: own 62 7 (.slice a2 gs.length c2) gs.length (gs.flatMap gcl) :: F) x a1 c1 gs := led_of
  by_cases hz : gs.length = 0
  · refine J.seq ?_
    refine J.region ?_
    refine JL.pure rfl rfl (OpP.move rfl) ?_
    refine JL.step rfl rfl (OpW.call (first := []) (captured := []) inferInstance rfl rfl (hL _ hLed)) ?_; rintro r34 _ ⟨y, ⟨a3, ⟨c3, ⟨rfl, rfl⟩⟩⟩⟩
    refine JL.pure rfl rfl (OpP.assign rfl) ?_
    refine JL.nil ?_
    refine J.seq ?_
    refine J.region ?_
    refine JL.pure rfl rfl (OpP.move rfl) ?_
    refine JL.step rfl rfl (OpW.call (first := []) (captured := []) inferInstance rfl rfl (hG _ (hLed.conv fun _ h => Own.pick (pre := [_, _, _, _, _]) [2, 3, 4] rfl h))) ?_; rintro r36 _ ⟨a4, ⟨c4, ⟨rfl, rfl⟩⟩⟩
    refine JL.pure rfl rfl (OpP.assign rfl) ?_
    refine JL.nil ?_
    refine J.seq ?_
    refine J.seq ?_
    refine J.region ?_
    refine JL.pure rfl rfl (OpP.move rfl) ?_
    refine JL.pure rfl rfl (OpP.eqPtrNil rfl rfl) ?_
    refine JL.pure rfl rfl (OpP.move rfl) ?_
    refine JL.pure rfl rfl (OpP.move rfl) ?_
    refine JL.pure rfl rfl (OpP.len rfl rfl) ?_
    refine JL.decT rfl rfl (OpP.eql rfl rfl) (by omega) ?_
    refine JL.pure rfl rfl (OpP.pickF rfl rfl) ?_
    refine JL.nil ?_
    refine J.condT rfl ?_
    refine J.seq ?_
    refine J.region ?_
    refine JL.pure rfl rfl (OpP.move rfl) ?_
    refine JL.pure rfl rfl (OpP.nePtrNil rfl rfl) ?_
    refine JL.pure rfl rfl (OpP.assign rfl) ?_
    refine JL.nil ?_
    refine J.ret1 rfl rfl ?_
    rfl
  · have hm1 := Int.emod_nonneg num (show (gs.length : Int) ≠ 0 by omega)
    have hm2 := Int.emod_lt_of_pos num (show (0 : Int) < gs.length by omega)
    refine J.seq ?_
    refine J.region ?_
    refine JL.pure rfl rfl (OpP.move rfl) ?_
    refine JL.step rfl rfl (OpW.call (first := []) (captured := []) inferInstance rfl rfl (hL _ hLed)) ?_; rintro r34 _ ⟨y, ⟨a3, ⟨c3, ⟨rfl, rfl⟩⟩⟩⟩
    refine JL.pure rfl rfl (OpP.assign rfl) ?_
    refine JL.nil ?_
    refine J.seq ?_
    refine J.region ?_
    refine JL.pure rfl rfl (OpP.move rfl) ?_
    refine JL.step rfl rfl (OpW.call (first := []) (captured := []) inferInstance rfl rfl (hG _ (hLed.conv fun _ h => Own.pick (pre := [_, _, _, _, _]) [2, 3, 4] rfl h))) ?_; rintro r36 _ ⟨a4, ⟨c4, ⟨rfl, rfl⟩⟩⟩
    refine JL.pure rfl rfl (OpP.assign rfl) ?_
    refine JL.nil ?_
    refine J.seq ?_
    refine J.seq ?_
    refine J.region ?_
    refine JL.pure rfl rfl (OpP.move rfl) ?_
    refine JL.pure rfl rfl (OpP.eqPtrNil rfl rfl) ?_
    refine JL.pure rfl rfl (OpP.move rfl) ?_
    refine JL.pure rfl rfl (OpP.move rfl) ?_
    refine JL.pure rfl rfl (OpP.len rfl rfl) ?_
    refine JL.decF rfl rfl (OpP.eql rfl rfl) (by omega) ?_
    refine JL.pure rfl rfl (OpP.pickF rfl rfl) ?_
    refine JL.nil ?_
    refine J.condF rfl ?_
    refine J.skip ?_
    refine J.seq ?_
    refine J.region ?_
    refine JL.pure rfl rfl (OpP.move rfl) ?_
    refine JL.pure rfl rfl (OpP.convI64 rfl (by omega) (by omega)) ?_
    refine JL.pure rfl rfl (OpP.move rfl) ?_
    refine JL.pure rfl rfl (OpP.len rfl rfl) ?_
    refine JL.pure rfl rfl (OpP.remI rfl rfl (by first | omega | exact Int.natCast_nonneg _) (by omega)) ?_
    refine JL.pure rfl rfl (OpP.addI rfl rfl (by omega) (by omega)) ?_
    refine JL.pure rfl rfl (OpP.assign rfl) ?_
    refine JL.nil ?_
    refine J.seq ?_
    generalize hkk : 1 + num % (gs.length : Int) = k at *
    have hk1 : 1 ≤ k ∧ k ≤ gs.length := by omega
    have hR := fun (G : List HProp) => Revoke_ok' (w0 := w0) (F := G) (x := y) (a := a3) (c := c3) (gs := gs) (now := now) (n := k) (who := rootS) hI.wf (by decide)
    rw [revF_root ht hk1] at hR
    unfold ledL at hR
    obtain ⟨g0, hg0⟩ : ∃ g, gs[(k - 1).toNat]? = some g := ⟨_, List.getElem?_eq_getElem (by omega)⟩
    have hlen7 : ∀ g ∈ gs, (gcl g).length = 7 := fun _ _ => rfl
    by_cases hrv : revAt gs k = true
    · rw [if_pos hrv] at hR
      rw [if_neg (by decide)] at hR
      have hg0r : g0.rev = true := by rw [revAt, hg0] at hrv; exact hrv
      refine J.ownSome .head (by omega) fun g1 p1 ea1 hc1 => ?_
      subst ea1
      refine J.seq ?_
      refine J.region ?_
      refine JL.pure rfl rfl (OpP.move rfl) ?_
      refine JL.pure rfl rfl (OpP.move rfl) ?_
      refine JL.pure rfl rfl (OpP.move rfl) ?_
      refine JL.f2 ?_; refine JL.f2 ?_; refine JL.step rfl rfl (OpW.call (first := []) (captured := []) inferInstance rfl rfl (hR _)) ?_; rintro r55 _ ⟨rfl, rfl⟩
      refine JL.decT rfl rfl (OpP.neq rfl rfl) (by omega) ?_
      refine JL.nil ?_
      refine J.condT rfl ?_
      refine J.seq ?_
      refine J.region ?_
      refine JL.pure rfl rfl (OpP.move rfl) ?_
      refine JL.pure rfl rfl (OpP.move rfl) ?_
      refine JL.pure rfl rfl (OpP.subI rfl rfl (by omega) (by omega)) ?_
      refine JL.pure rfl rfl (OpP.indexAddr rfl rfl (by omega) (by omega)) ?_
      refine JL.pure rfl rfl (OpP.fieldAddr rfl) ?_
      refine JL.read rfl rfl (OpR.load1 rfl (by apply Cells.cellChunk (j := 6) (Cells.own (.tail (.tail .head))) (fun _ h => h); (case' h => assumption); (case' hi => assumption); (case' hv => rfl); (case' ho => omega); done)) ?_
      refine JL.pure rfl rfl (OpP.assign rfl) ?_
      refine JL.nil ?_
      refine J.ret1 rfl rfl ?_
      rw [hg0r]
    · rw [if_neg hrv, if_pos rfl] at hR
      refine J.ownSome .head (by omega) fun g1 p1 ea1 hc1 => ?_
      subst ea1
      refine J.seq ?_
      refine J.region ?_
      refine JL.pure rfl rfl (OpP.move rfl) ?_
      refine JL.pure rfl rfl (OpP.move rfl) ?_
      refine JL.pure rfl rfl (OpP.move rfl) ?_
      refine JL.f2 ?_; refine JL.f2 ?_; refine JL.step rfl rfl (OpW.call (first := []) (captured := []) inferInstance rfl rfl (hR _)) ?_; rintro r55 _ ⟨rfl, rfl⟩
      refine JL.decF rfl rfl (OpP.neq rfl rfl) (by omega) ?_
      refine JL.nil ?_
      refine J.condF rfl ?_
      refine J.skip ?_
      refine J.seq ?_
      refine J.seq ?_
      refine J.region ?_
      refine JL.pure rfl rfl (OpP.assign rfl) ?_
      refine JL.nil ?_
      refine J.block ?_
      have hrl : (setRev gs k).length = gs.length := setRev_length
      have hwfr := (hI.rev k).wf
      have hLy : Led w0 (row y 82 [.slice a3 (setRev gs k).length c3] :: own 62 7 (.slice a3 (setRev gs k).length c3) (setRev gs k).length ((setRev gs k).flatMap gcl) :: own 62 7 (.slice (some ⟨g1, p1, none⟩) gs.length c4) gs.length (gs.flatMap gcl) :: row x 82 [.slice a1 gs.length c1] :: own 62 7 (.slice a1 gs.length c1) gs.length (gs.flatMap gcl) :: own 62 7 (.slice a2 gs.length c2) gs.length (gs.flatMap gcl) :: F) y a3 c3 (setRev gs k) := led_of
      have hLx : Led w0 (row y 82 [.slice a3 (setRev gs k).length c3] :: own 62 7 (.slice a3 (setRev gs k).length c3) (setRev gs k).length ((setRev gs k).flatMap gcl) :: own 62 7 (.slice (some ⟨g1, p1, none⟩) gs.length c4) gs.length (gs.flatMap gcl) :: row x 82 [.slice a1 gs.length c1] :: own 62 7 (.slice a1 gs.length c1) gs.length (gs.flatMap gcl) :: own 62 7 (.slice a2 gs.length c2) gs.length (gs.flatMap gcl) :: F) x a1 c1 gs := (led_of (F := own 62 7 (.slice a2 gs.length c2) gs.length (gs.flatMap gcl) :: F)).conv fun _ h => h.tail.tail.tail
      refine J.loopI (fun i : Nat => gs.length + 1 - i) (fun i => 1 ≤ i ∧ i ≤ gs.length + 1) (fun i => [(12, .int .i64 (i : Nat)), (11, .int .i64 k), (10, .slice (some ⟨g1, p1, none⟩) gs.length c4), (9, .pointer (some ⟨y, 0, none⟩)), (7, .pointer (some ⟨x, 0, none⟩)), (1, .int .i64 now)]) (fun _ => row y 82 [.slice a3 (setRev gs k).length c3] :: own 62 7 (.slice a3 (setRev gs k).length c3) (setRev gs k).length ((setRev gs k).flatMap gcl) :: own 62 7 (.slice (some ⟨g1, p1, none⟩) gs.length c4) gs.length (gs.flatMap gcl) :: row x 82 [.slice a1 gs.length c1] :: own 62 7 (.slice a1 gs.length c1) gs.length (gs.flatMap gcl) :: own 62 7 (.slice a2 gs.length c2) gs.length (gs.flatMap gcl) :: F) 1 ⟨Nat.le_refl _, by omega⟩ (by repeat (first | exact SubEnv.nil | refine SubEnv.cons (by first | rfl | exact congrArg (fun z => some (Value.int .i64 z)) (by omega) | (simp; done)) ?_)) (fun _ h => h) (fun i hi back => ?_)
      obtain ⟨hi1, hi2⟩ := hi
      by_cases hi3 : i ≤ gs.length
      · refine J.seq ?_
        refine J.seq ?_
        refine J.region ?_
        refine JL.pure rfl rfl (OpP.move rfl) ?_
        refine JL.pure rfl rfl (OpP.move rfl) ?_
        refine JL.pure rfl rfl (OpP.len rfl rfl) ?_
        refine JL.decT rfl rfl (OpP.leq rfl rfl) (by omega) ?_
        refine JL.nil ?_
        refine J.condT rfl ?_
        refine J.skip ?_
        refine J.seq ?_
        refine J.block ?_
        refine J.seq ?_
        refine J.region ?_
        refine JL.pure rfl rfl (OpP.assign rfl) ?_
        refine JL.nil ?_
        refine J.seq ?_
        refine J.seq ?_
        refine J.region ?_
        refine JL.pure rfl rfl (OpP.move rfl) ?_
        refine JL.pure rfl rfl (OpP.assign rfl) ?_
        refine JL.nil ?_
        refine J.block ?_
        have hAy := fun (l : List HProp) (hl : Led w0 l y a3 c3 (setRev gs k)) => alive_ok (now := now) (n := (i : Int)) hl hwfr
        have hAx := fun (l : List HProp) (hl : Led w0 l x a1 c1 gs) => alive_ok (now := now) (n := (i : Int)) hl hI.wf
        have har := alive_rev hI.wf (now := now) (n := (i : Int)) hk1
        refine J.loopI (fun z : Int × Bool => z.1.toNat) (fun z => z.1 ≤ gs.length ∧ (z.2 || belowB gs k z.1) = belowB gs k i) (fun z => [(14, .int .i64 z.1), (13, .bool z.2), (12, .int .i64 (i : Nat)), (11, .int .i64 k), (10, .slice (some ⟨g1, p1, none⟩) gs.length c4), (9, .pointer (some ⟨y, 0, none⟩)), (7, .pointer (some ⟨x, 0, none⟩)), (1, .int .i64 now)]) (fun _ => row y 82 [.slice a3 (setRev gs k).length c3] :: own 62 7 (.slice a3 (setRev gs k).length c3) (setRev gs k).length ((setRev gs k).flatMap gcl) :: own 62 7 (.slice (some ⟨g1, p1, none⟩) gs.length c4) gs.length (gs.flatMap gcl) :: row x 82 [.slice a1 gs.length c1] :: own 62 7 (.slice a1 gs.length c1) gs.length (gs.flatMap gcl) :: own 62 7 (.slice a2 gs.length c2) gs.length (gs.flatMap gcl) :: F) ((i : Int), false) ⟨by dsimp only; omega, by dsimp only; rw [Bool.false_or]⟩ (by repeat (first | exact SubEnv.nil | refine SubEnv.cons (by first | rfl | exact congrArg (fun z => some (Value.int .i64 z)) (by omega) | (simp; done)) ?_)) (fun _ h => h) (fun ⟨n, b⟩ hz back2 => ?_)
        dsimp only at hz back2 ⊢
        obtain ⟨hn1, hbel⟩ := hz
        by_cases hnp : 0 < n
        · obtain ⟨h, hh⟩ : ∃ g, gs[(n - 1).toNat]? = some g := ⟨_, List.getElem?_eq_getElem (by omega)⟩
          obtain ⟨w1, w2, w3⟩ := hI.wf.2 _ _ hh
          have hst := below_step hI.wf (k := k) (by omega) hh
          cases b
          · refine J.seq ?_
            refine J.seq ?_
            refine J.region ?_
            refine JL.pure rfl rfl (OpP.move rfl) ?_
            refine JL.decT rfl rfl (OpP.gtr rfl rfl) (by omega) ?_
            refine JL.nil ?_
            refine J.condT rfl ?_
            refine J.skip ?_
            refine J.seq ?_
            refine J.block ?_
            refine J.region ?_
            refine JL.pure rfl rfl (OpP.move rfl) ?_
            refine JL.pure rfl rfl (OpP.move rfl) ?_
            refine JL.pure rfl rfl (OpP.move rfl) ?_
            refine JL.pure rfl rfl (OpP.move rfl) ?_
            refine JL.dec rfl rfl (OpP.eql rfl rfl) (fun h82 => ?_) (fun h82 => ?_)
            focus
              refine JL.pure rfl rfl (OpP.pickF rfl rfl) ?_
              refine JL.pure rfl rfl (OpP.assign rfl) ?_
              refine JL.nil ?_
              refine J.inBlock ?_
              refine J.region ?_
              refine JL.pure rfl rfl (OpP.move rfl) ?_
              refine JL.pure rfl rfl (OpP.move rfl) ?_
              refine JL.pure rfl rfl (OpP.subI rfl rfl (by omega) (by omega)) ?_
              refine JL.pure rfl rfl (OpP.indexAddr rfl rfl (by omega) (by omega)) ?_
              refine JL.pure rfl rfl (OpP.fieldAddr rfl) ?_
              refine JL.read rfl rfl (OpR.load1 rfl (by apply Cells.cellChunk (j := 5) (Cells.own (.tail (.tail .head))) (fun _ h => h); (case' h => assumption); (case' hi => assumption); (case' hv => rfl); (case' ho => omega); done)) ?_
              refine JL.pure rfl rfl (OpP.assign rfl) ?_
              refine JL.nil ?_
            rotate_left 1
            focus
              refine JL.pure rfl rfl (OpP.pickF rfl rfl) ?_
              refine JL.pure rfl rfl (OpP.assign rfl) ?_
              refine JL.nil ?_
              refine J.inBlock ?_
              refine J.region ?_
              refine JL.pure rfl rfl (OpP.move rfl) ?_
              refine JL.pure rfl rfl (OpP.move rfl) ?_
              refine JL.pure rfl rfl (OpP.subI rfl rfl (by omega) (by omega)) ?_
              refine JL.pure rfl rfl (OpP.indexAddr rfl rfl (by omega) (by omega)) ?_
              refine JL.pure rfl rfl (OpP.fieldAddr rfl) ?_
              refine JL.read rfl rfl (OpR.load1 rfl (by apply Cells.cellChunk (j := 5) (Cells.own (.tail (.tail .head))) (fun _ h => h); (case' h => assumption); (case' hi => assumption); (case' hv => rfl); (case' ho => omega); done)) ?_
              refine JL.pure rfl rfl (OpP.assign rfl) ?_
              refine JL.nil ?_
            rotate_left 1
            · exact back2 (h.par, true) ⟨by dsimp only; omega, by dsimp only; rw [← hbel, hst, decide_eq_true (by assumption)]; rfl⟩ (by dsimp only; omega) (by repeat (first | exact SubEnv.nil | refine SubEnv.cons (by first | rfl | exact congrArg (fun z => some (Value.int .i64 z)) (by omega) | (simp; done)) ?_)) (fun _ h => h)
            · exact back2 (h.par, false) ⟨by dsimp only; omega, by dsimp only; rw [← hbel, hst, decide_eq_false (by assumption)]; rfl⟩ (by dsimp only; omega) (by repeat (first | exact SubEnv.nil | refine SubEnv.cons (by first | rfl | exact congrArg (fun z => some (Value.int .i64 z)) (by omega) | (simp; done)) ?_)) (fun _ h => h)
          · refine J.seq ?_
            refine J.seq ?_
            refine J.region ?_
            refine JL.pure rfl rfl (OpP.move rfl) ?_
            refine JL.decT rfl rfl (OpP.gtr rfl rfl) (by omega) ?_
            refine JL.nil ?_
            refine J.condT rfl ?_
            refine J.skip ?_
            refine J.seq ?_
            refine J.block ?_
            refine J.region ?_
            refine JL.pure rfl rfl (OpP.move rfl) ?_
            refine JL.pure rfl rfl (OpP.move rfl) ?_
            refine JL.skip rfl rfl ?_
            refine JL.skip rfl rfl ?_
            refine JL.skip rfl rfl ?_
            refine JL.pure rfl rfl (OpP.pickT rfl rfl) ?_
            refine JL.pure rfl rfl (OpP.assign rfl) ?_
            refine JL.nil ?_
            refine J.inBlock ?_
            refine J.region ?_
            refine JL.pure rfl rfl (OpP.move rfl) ?_
            refine JL.pure rfl rfl (OpP.move rfl) ?_
            refine JL.pure rfl rfl (OpP.subI rfl rfl (by omega) (by omega)) ?_
            refine JL.pure rfl rfl (OpP.indexAddr rfl rfl (by omega) (by omega)) ?_
            refine JL.pure rfl rfl (OpP.fieldAddr rfl) ?_
            refine JL.read rfl rfl (OpR.load1 rfl (by apply Cells.cellChunk (j := 5) (Cells.own (.tail (.tail .head))) (fun _ h => h); (case' h => assumption); (case' hi => assumption); (case' hv => rfl); (case' ho => omega); done)) ?_
            refine JL.pure rfl rfl (OpP.assign rfl) ?_
            refine JL.nil ?_
            exact back2 (h.par, true) ⟨by dsimp only; omega, by rw [Bool.true_or] at hbel ⊢; exact hbel⟩ (by dsimp only; omega) (by repeat (first | exact SubEnv.nil | refine SubEnv.cons (by first | rfl | exact congrArg (fun z => some (Value.int .i64 z)) (by omega) | (simp; done)) ?_)) (fun _ h => h)
        · rw [below_out (by omega), Bool.or_false] at hbel
          refine J.seq ?_
          refine J.seq ?_
          refine J.region ?_
          refine JL.pure rfl rfl (OpP.move rfl) ?_
          refine JL.decF rfl rfl (OpP.gtr rfl rfl) (by omega) ?_
          refine JL.nil ?_
          refine J.condF rfl ?_
          refine J.exit rfl ?_
          refine J.seq ?_
          refine J.region ?_
          refine JL.pure rfl rfl (OpP.move rfl) ?_
          refine JL.pure rfl rfl (OpP.move rfl) ?_
          refine JL.pure rfl rfl (OpP.move rfl) ?_
          refine JL.step rfl rfl (OpW.call (first := []) (captured := []) inferInstance rfl rfl (hAy _ hLy)) ?_; rintro r87 _ ⟨rfl, rfl⟩
          refine JL.pure rfl rfl (OpP.move rfl) ?_
          refine JL.pure rfl rfl (OpP.move rfl) ?_
          refine JL.pure rfl rfl (OpP.move rfl) ?_
          refine JL.step rfl rfl (OpW.call (first := []) (captured := []) inferInstance rfl rfl (hAx _ (hLed.conv fun _ h => Own.pick (pre := [_, _, _, _, _, _]) [3, 4, 5] rfl h))) ?_; rintro r91 _ ⟨rfl, rfl⟩
          refine JL.pure rfl rfl (OpP.move rfl) ?_
          refine JL.decAt 92 rfl (fun h92 => ?_) (fun h92 => ?_)
          focus
            refine JL.pure rfl rfl (OpP.move rfl) ?_
            refine JL.pure rfl rfl (OpP.notB rfl) ?_
            refine JL.pure rfl rfl (OpP.pickT rfl rfl) ?_
            refine JL.dec rfl rfl (OpP.neBool rfl rfl) (fun h96 => ?_) (fun h96 => ?_)
            focus
              refine JL.nil ?_
              refine J.condT rfl ?_
              refine J.seq ?_
              refine J.region ?_
              refine JL.pure rfl rfl (OpP.assign rfl) ?_
              refine JL.nil ?_
              refine J.ret1 rfl rfl ?_
            rotate_left 1
            focus
              refine JL.nil ?_
              refine J.condF rfl ?_
              refine J.skip ?_
              refine J.inBlock ?_
              refine J.region ?_
              refine JL.pure rfl rfl (OpP.move rfl) ?_
              refine JL.pure rfl rfl (OpP.addI rfl rfl (by omega) (by omega)) ?_
              refine JL.pure rfl rfl (OpP.assign rfl) ?_
              refine JL.nil ?_
            rotate_left 1
          rotate_left 2
          focus
            refine JL.skip rfl rfl ?_
            refine JL.skip rfl rfl ?_
            refine JL.pure rfl rfl (OpP.pickF rfl rfl) ?_
            refine JL.dec rfl rfl (OpP.neBool rfl rfl) (fun h96 => ?_) (fun h96 => ?_)
            focus
              refine JL.nil ?_
              refine J.condT rfl ?_
              refine J.seq ?_
              refine J.region ?_
              refine JL.pure rfl rfl (OpP.assign rfl) ?_
              refine JL.nil ?_
              refine J.ret1 rfl rfl ?_
            rotate_left 1
            focus
              refine JL.nil ?_
              refine J.condF rfl ?_
              refine J.skip ?_
              refine J.inBlock ?_
              refine J.region ?_
              refine JL.pure rfl rfl (OpP.move rfl) ?_
              refine JL.pure rfl rfl (OpP.addI rfl rfl (by omega) (by omega)) ?_
              refine JL.pure rfl rfl (OpP.assign rfl) ?_
              refine JL.nil ?_
            rotate_left 1
          rotate_left 2
          all_goals first
            | exact back (i + 1) ⟨by omega, by omega⟩ (by omega) (by repeat (first | exact SubEnv.nil | refine SubEnv.cons (by first | rfl | exact congrArg (fun z => some (Value.int .i64 z)) (by omega) | (simp; done)) ?_)) (fun _ h => h)
            | (exfalso; clear hAy hAx hLx hLy hR hm hL hG back back2 hfw h19; simp_all; done)
      · refine J.seq ?_
        refine J.seq ?_
        refine J.region ?_
        refine JL.pure rfl rfl (OpP.move rfl) ?_
        refine JL.pure rfl rfl (OpP.move rfl) ?_
        refine JL.pure rfl rfl (OpP.len rfl rfl) ?_
        refine JL.decF rfl rfl (OpP.leq rfl rfl) (by omega) ?_
        refine JL.nil ?_
        refine J.condF rfl ?_
        refine J.exit rfl ?_
        refine J.seq ?_
        refine J.region ?_
        refine JL.pure rfl rfl (OpP.assign rfl) ?_
        refine JL.nil ?_
        refine J.ret1 rfl rfl ?_
        rfl
theorem GrantFalls_law {W : World} {a : Option Addr} {n c : Nat} {now num : Int} (h : Fm Try.prog W 40 [.slice a n c]) (_ : (Lit.int .i64 now).wf = true) (h2 : (Lit.int .u8 num).wf = true) :
    Calls Try.prog 12 #[.slice a n c, .int .i64 now, .int .u8 num] W fun e w' => e = .returned (.bool true) ∧ Below W.heap.size W w' := by
  obtain ⟨os, ho, hn, hr⟩ := Fm.rows (f := ocl) (Q := fun o => 0 ≤ o.k ∧ o.k ≤ 255) (e := 57) (by kernel_rfl) (sz := 6) (by kernel_rfl) (by decide) h fun cs _ hf => Fm.oc hf
  simp [Lit.wf, IntKind.min, IntKind.max, IntKind.signed, IntKind.bits] at h2
  obtain ⟨a', c', e⟩ := (hr []).lit
  cases e
  have hm2 : maxLen ≤ 9223372036854775807 := by decide
  exact FnO.law (GrantFalls_ok h2 (by omega) (fun o h => (ho o h).1) (hr []).o) (Own.nil W)
end Go.Proofs.C

-- seat c
namespace Go.Proofs.C
open Go Go.Gp Go.RowKit

def outR (b : Nat) (L : List Int) : HProp := hex fun x : Option Addr × Nat => star (row b 22 [.slice x.1 L.length x.2]) (own 3 1 (.slice x.1 L.length x.2) L.length (icells L))
theorem J.outR {C : Cx} {k : List Item} {env : Env} {b : Nat} {L : List Int} {F : List HProp} (h : ∀ a c, J C k env (row b 22 [.slice a L.length c] :: own 3 1 (.slice a L.length c) L.length (icells L) :: F)) : J C k env (outR b L :: F) :=
  J.open (p := fun _ => True) (l' := fun x => row b 22 [.slice x.1 L.length x.2] :: own 3 1 (.slice x.1 L.length x.2) L.length (icells L) :: F) (fun _ ho => let ⟨x, hx⟩ := ho.ex_out; ⟨x, trivial, hx.star_out⟩) fun x _ => h x.1 x.2
theorem outR_in {w0 w : World} {b c : Nat} {a : Option Addr} {L : List Int} {F : List HProp} (h : Own w0 w (row b 22 [.slice a L.length c] :: own 3 1 (.slice a L.length c) L.length (icells L) :: F)) : Own w0 w (outR b L :: F) := .ex_in (a, c) h.star_in
def nextP (L : List Int) (g : Gr) : List Int × Bool := (L ++ [g.num], true)
theorem run_path : ∀ (l : List Gr) (L : List Int), runU nextP l L = L ++ l.map (·.num)
  | [], L => (List.append_nil L).symm
  | g :: l, L => by rw [runU, if_pos (show (nextP L g).2 = true from rfl), run_path l, nextP, List.append_assoc]; rfl
def pathF (gs : List Gr) (now : Int) (who : Str) : List Int := if who = rootS then [] else match heldL gs now who gs with | [] => [] | h :: l => (upL gs (maxF h l).num).map (·.num)
theorem Path_ok {w0 : World} {F : List HProp} {x c : Nat} {a : Option Addr} {gs : List Gr} {now : Int} {who : Str} (hL : Led w0 F x a c gs) (hI : Inv gs) :
    FnO Try.prog w0 35 [.pointer (some ⟨x, 0, none⟩), .int .i64 now, .string who] F (fun r l' => ∃ a c, r = .slice a (pathF gs now who).length c ∧ l' = own 3 1 (.slice a (pathF gs now who).length c) (pathF gs now who).length (icells (pathF gs now who)) :: F) := by
  have hlen40 := hI.len
  have hle := held_le gs now who gs
  have hH := held_ok (now := now) (who := who) hL hI.wf
  refine FnO.weak ?_
  refine FnO.intro (n := 33) Try.func35 rfl rfl rfl ?_
  by_cases hw : who = rootS
  · rw [pathF, if_pos hw]
    refine J.seq ?_
    refine J.region ?_
    refine JL.pure rfl rfl (OpP.assign rfl) ?_
    refine JL.nil ?_
    refine J.seq ?_
    refine J.region ?_
    refine JL.pure rfl rfl (OpP.move rfl) ?_
    refine JL.pure rfl rfl (OpP.move rfl) ?_
    refine JL.pure rfl rfl (OpP.move rfl) ?_
    refine JL.step rfl rfl (OpW.call (first := []) (captured := []) inferInstance rfl rfl hH) ?_; rintro r13 _ ⟨a1, ⟨c1, ⟨rfl, rfl⟩⟩⟩
    refine JL.pure rfl rfl (OpP.assign rfl) ?_
    refine JL.nil ?_
    refine J.seq ?_
    refine J.seq ?_
    refine J.region ?_
    refine JL.pure rfl rfl (OpP.move rfl) ?_
    refine JL.decT rfl rfl (OpP.eqStr rfl rfl) (by omega) ?_
    refine JL.pure rfl rfl (OpP.move rfl) ?_
    refine JL.skip rfl rfl ?_
    refine JL.skip rfl rfl ?_
    refine JL.skip rfl rfl ?_
    refine JL.pure rfl rfl (OpP.pickT rfl rfl) ?_
    refine JL.nil ?_
    refine J.condT rfl ?_
    refine J.seq ?_
    refine J.region ?_
    refine JL.pure rfl rfl (OpP.assign rfl) ?_
    refine JL.nil ?_
    refine J.ret1 rfl rfl ?_
    exact ⟨_, ⟨none, 0, rfl, rfl⟩, fun _ h => h.tail.own_nil⟩
  · rw [pathF, if_neg hw]
    have hdl : ∀ g ∈ heldL gs now who gs, DepOk g := fun g hg => hI.dep g (List.mem_filter.1 hg).1
    have hml : ∀ g ∈ heldL gs now who gs, g ∈ gs := fun g hg => (List.mem_filter.1 hg).1
    generalize heldL gs now who gs = hs at *
    cases hs with
    | nil =>
      refine J.seq ?_
      refine J.region ?_
      refine JL.pure rfl rfl (OpP.assign rfl) ?_
      refine JL.nil ?_
      refine J.seq ?_
      refine J.region ?_
      refine JL.pure rfl rfl (OpP.move rfl) ?_
      refine JL.pure rfl rfl (OpP.move rfl) ?_
      refine JL.pure rfl rfl (OpP.move rfl) ?_
      refine JL.step rfl rfl (OpW.call (first := []) (captured := []) inferInstance rfl rfl hH) ?_; rintro r13 _ ⟨a1, ⟨c1, ⟨rfl, rfl⟩⟩⟩
      refine JL.pure rfl rfl (OpP.assign rfl) ?_
      refine JL.nil ?_
      refine J.seq ?_
      refine J.seq ?_
      refine J.region ?_
      refine JL.pure rfl rfl (OpP.move rfl) ?_
      refine JL.decF rfl rfl (OpP.eqStr rfl rfl) (by omega) ?_
      refine JL.pure rfl rfl (OpP.move rfl) ?_
      refine JL.pure rfl rfl (OpP.move rfl) ?_
      refine JL.pure rfl rfl (OpP.len rfl rfl) ?_
      refine JL.decT rfl rfl (OpP.eql rfl rfl) (by decide) ?_
      refine JL.pure rfl rfl (OpP.pickF rfl rfl) ?_
      refine JL.nil ?_
      refine J.condT rfl ?_
      refine J.seq ?_
      refine J.region ?_
      refine JL.pure rfl rfl (OpP.assign rfl) ?_
      refine JL.nil ?_
      refine J.ret1 rfl rfl ?_
      exact ⟨_, ⟨none, 0, rfl, rfl⟩, fun _ h => h.tail.own_nil⟩
    | cons g l =>
      have hpos : 0 < (g :: l).length := Nat.succ_pos _
      have hm := hml _ (maxF_mem l g)
      obtain ⟨i, hi, hnum, _⟩ := hI.mem hm
      have hilt := (List.getElem?_eq_some_iff.1 hi).1
      have hD := fun (F : List HProp) (a : Option Addr) (c : Nat) (hr : RdO w0 F (.slice a (g :: l).length c) (g :: l).length ((g :: l).flatMap gcl)) => deepest_ok (g0 := g) (rest := l) rfl (by omega) hdl hr
      refine J.seq ?_
      refine J.region ?_
      refine JL.pure rfl rfl (OpP.assign rfl) ?_
      refine JL.nil ?_
      refine J.seq ?_
      refine J.region ?_
      refine JL.pure rfl rfl (OpP.move rfl) ?_
      refine JL.pure rfl rfl (OpP.move rfl) ?_
      refine JL.pure rfl rfl (OpP.move rfl) ?_
      refine JL.step rfl rfl (OpW.call (first := []) (captured := []) inferInstance rfl rfl hH) ?_; rintro r13 _ ⟨a1, ⟨c1, ⟨rfl, rfl⟩⟩⟩
      refine JL.pure rfl rfl (OpP.assign rfl) ?_
      refine JL.nil ?_
      refine J.seq ?_
      refine J.seq ?_
      refine J.region ?_
      refine JL.pure rfl rfl (OpP.move rfl) ?_
      refine JL.decF rfl rfl (OpP.eqStr rfl rfl) (by omega) ?_
      refine JL.pure rfl rfl (OpP.move rfl) ?_
      refine JL.pure rfl rfl (OpP.move rfl) ?_
      refine JL.pure rfl rfl (OpP.len rfl rfl) ?_
      refine JL.decF rfl rfl (OpP.eql rfl rfl) (by omega) ?_
      refine JL.pure rfl rfl (OpP.pickF rfl rfl) ?_
      refine JL.nil ?_
      refine J.condF rfl ?_
      refine J.skip ?_
      refine J.seq ?_
      refine J.region ?_
      refine JL.mem rfl rfl OpM.alloc ?_; rintro _ _ ⟨b8, rfl, rfl⟩
      refine JL.nil ?_
      refine J.seq ?_
      refine J.seq ?_
      refine J.region ?_
      refine JL.pure rfl rfl (OpP.move rfl) ?_
      refine JL.pure rfl rfl (OpP.move rfl) ?_
      refine JL.step rfl rfl (OpW.call (first := []) (captured := []) inferInstance rfl rfl (hD _ _ _ (RdO.own (.tail .head)))) ?_; rintro r23 _ ⟨rfl, rfl⟩
      refine JL.pure rfl rfl (OpP.field1 rfl rfl) ?_
      refine JL.step rfl rfl (OpW.call (first := []) (captured := []) inferInstance rfl rfl parents_ok) ?_; rintro r25 _ ⟨b2, ⟨b3, ⟨rfl, rfl⟩⟩⟩
      refine JL.nil ?_
      refine J.block ?_
      refine J.conv (l' := outR b8 [] :: row b3 3 [.int .i64 (maxF g l).num] :: row b2 44 [.pointer (some ⟨x, 0, none⟩)] :: own 62 7 (.slice a1 (g :: l).length c1) (g :: l).length ((g :: l).flatMap gcl) :: F) (fun _ h => ?_) ?_
      · exact outR_in (a := none) (c := 0) (Own.pick (pre := [_, _, _, _, _]) [3, 0, 1, 2, 4] rfl h.own_nil)
      refine overParentsI (σ := List Int) (G := fun L => outR b8 L :: row b3 3 [.int .i64 (maxF g l).num] :: row b2 44 [.pointer (some ⟨x, 0, none⟩)] :: own 62 7 (.slice a1 (g :: l).length c1) (g :: l).length ((g :: l).flatMap gcl) :: F)
        (st := fun _ => .ready) (pe := fun _ => none) (next := nextP) (Ok := fun L n => L.length + n.toNat ≤ gs.length) (n0 := (maxF g l).num) (s0 := []) (f0 := gs.length)
        Try.func35 rfl rfl hI.wf (by simp; omega) (by omega) rfl (fun _ _ _ => rfl) (fun _ h => by cases h) (fun s _ _ => hL.conv fun _ h => h.tail.tail.tail.tail) (fun s _ _ => Cell.row (.tail (.tail .head)) rfl) (Cell.row (.tail .head) rfl)
        (fun L n g h hn hg _ => by have := hI.wf.2 _ _ hg; simp [nextP]; omega) (fun D L tm s n' h hs hn hg => ?_) (fun D => ?_)
      · have hs2 : s.length ≤ 40 := by omega
        refine J.f2 ?_
        refine J.outR fun av cv => ?_
        refine J.region ?_
        refine JL.mem rfl rfl OpM.alloc ?_; rintro _ _ ⟨b9, rfl, rfl⟩
        refine JL.mem0 rfl (by apply OpM.storeN rfl rfl (by rfl) (oneC rfl (oneC rfl (oneC rfl (oneC rfl (oneC rfl (oneC rfl (one1 rfl))))))); (case' hu => exact .head); (case' hs => exact (.here (.here (.here (.here (.here (.here (.here .nil)))))))); done) ?_; rintro _ _ ⟨rfl, rfl⟩
        refine JL.nil ?_
        refine J.beginRound (by (with_reducible repeat (first | exact Upd.head | apply Upd.tail))) ?_
        refine J.block ?_
        refine J.region ?_
        refine JL.read rfl rfl (OpR.load1 rfl (Cell.row (.tail .head) rfl)) ?_
        refine JL.pure rfl rfl (OpP.fieldAddr rfl) ?_
        refine JL.read rfl rfl (OpR.load1 rfl (Cell.row .head rfl)) ?_
        refine JL.mem rfl rfl (by apply OpM.buildSlice (by rfl) rfl (by rfl); (repeat (first | exact Fills.nil | (apply Fills.cons rfl rfl rfl; (case' hs => ((repeat (first | exact Spl.nil | apply Spl.here | apply Spl.there)); done)))))) ?_; rintro _ _ ⟨b30, rfl, rfl⟩
        refine JL.f3 ?_; refine JL.mem rfl rfl (OpM.appendH rfl (.inl ⟨_, Sl.und inferInstance⟩) (by rfl) rfl rfl (RdO.src (RdO.ofRow (.tail .head) (by first | exact Nat.le_refl _ | decide | omega)) (by first | assumption | exact fc_length _ _ | (simp; done) | (simp; omega))) (one1 rfl) (by simp only [maxLen]; omega) (by omega)) ?_; rintro _ _ ⟨⟨a31, c31, rfl⟩, rfl⟩
        refine JL.mem0 rfl (by apply OpM.store1 rfl rfl rfl; (case' hu => exact (.tail (.tail (.tail .head)))); (case' hs => exact (.here .nil)); done) ?_; rintro _ _ ⟨rfl, rfl⟩
        refine JL.nil ?_
        refine J.inBlock ?_
        refine J.roundEnd (by (with_reducible repeat (first | exact Upd.head | apply Upd.tail))) ?_
        refine ⟨_, ⟨rfl, rfl⟩, fun _ hw => ?_⟩
        have e : (s ++ [h.num]).length = s.length + 1 := by rw [List.length_append]; rfl
        refine Own.pick (pre := [_, _, _, _, _, _]) [1, 2, 0, 3, 4, 5] rfl (outR_in (a := a31) (c := c31) (L := s ++ [h.num]) ?_)
        rw [e, icells_append]
        exact Own.pick (pre := [_, _, _, _, _, _, _, _, _]) [3, 0, 4, 5, 6, 7, 8] rfl hw
      · rw [run_path, List.nil_append]
        simp only [Option.map_none, Option.toList_none, List.nil_append]
        refine J.f1 ?_
        refine J.outR fun av cv => ?_
        refine J.inBlock ?_
        refine J.seq ?_
        refine J.region ?_
        refine JL.read rfl rfl (OpR.load1 rfl (Cell.row .head rfl)) ?_
        refine JL.pure rfl rfl (OpP.assign rfl) ?_
        refine JL.nil ?_
        refine J.retK1 (by (with_reducible repeat (first | exact Upd.head | apply Upd.tail))) rfl rfl ?_
        exact ⟨_, ⟨av, cv, rfl, rfl⟩, fun _ h => Own.pick (pre := [_, _, _, _, _, _]) [1] rfl h⟩
end Go.Proofs.C

-- seat c
namespace Go.Proofs.C
open Go Go.Gp Go.RowKit

/-- A grant of the ledger that is alive. -/
structure Cur (gs : List Gr) (now : Int) (k : Gr) : Prop where
  num : 1 ≤ k.num ∧ k.num ≤ gs.length
  at_ : gs[(k.num - 1).toNat]? = some k
  alive : aliveP gs now k.num
theorem cur_next {gs : List Gr} {now : Int} {k : Gr} (hI : Inv gs) (h : Cur gs now k) :
    deadB now k = false ∧ ((k.par = 0 ∧ k.fr = rootS ∧ upL gs k.num = [k]) ∨ (k.par ≠ 0 ∧ ∃ p, Cur gs now p ∧ p.num = k.par ∧ p.num < k.num ∧ p.to = k.fr ∧ k.dep < p.dep ∧ upL gs k.num = k :: upL gs p.num)) := by
  obtain ⟨h1, h2⟩ := (alive_step hI.wf h.alive.1 h.num.1 h.at_).1 h.alive
  have hu := upL_in hI.wf h.num.1 h.at_
  have hn := h.num
  refine ⟨h1, ?_⟩
  obtain ⟨_, _, _, ⟨h3, h4⟩ | ⟨h3, j, p, h4, h5, h6, h7, h8⟩⟩ := hI.at_ _ _ h.at_
  · refine .inl ⟨h4, h3, ?_⟩
    rw [hu, h4, upL_out (by omega)]
  · obtain ⟨q1, _⟩ := hI.at_ _ _ h6
    have hp : p.num = k.par := by omega
    have hne : k.par ≠ 0 := by omega
    refine .inr ⟨hne, p, ⟨by omega, by rw [show (p.num - 1).toNat = j by omega]; exact h6, by rw [hp]; exact h2.resolve_left hne⟩, hp, by omega, h7, h8, ?_⟩
    rw [hu, hp]
theorem cur_len {gs : List Gr} {now : Int} (hI : Inv gs) : ∀ (m : Nat) (k : Gr), k.num.toNat ≤ m → Cur gs now k → ((upL gs k.num).length : Int) + k.dep ≤ 6
  | 0, k, h, hc => by have := hc.num; omega
  | m + 1, k, h, hc => by
    obtain ⟨_, ⟨_, _, hu⟩ | ⟨_, p, hp, _, hlt, _, hd, hu⟩⟩ := cur_next hI hc
    · rw [hu]
      have := (hI.at_ _ _ hc.at_).2.1
      unfold DepOk at this
      simp; omega
    · rw [hu, List.length_cons]
      have := cur_len hI m p (by have := hp.num; omega) hp
      omega
theorem path_of {gs : List Gr} {now : Int} {who : Str} (hI : Inv gs) (hw : who ≠ rootS) : ((authF gs now who).2 = false ∧ pathF gs now who = []) ∨ ∃ k, Cur gs now k ∧ k.to = who ∧ authF gs now who = (k.dep, true) ∧ pathF gs now who = (upL gs k.num).map (·.num) := by
  rw [authF, pathF, if_neg hw, if_neg hw]
  cases hh : heldL gs now who gs with
  | nil => exact .inl ⟨rfl, rfl⟩
  | cons h l =>
    have hm := maxF_mem l h
    rw [← hh] at hm
    obtain ⟨hm1, hm2⟩ := List.mem_filter.1 hm
    obtain ⟨i, hi, hn, _⟩ := hI.mem hm1
    have hlt := (List.getElem?_eq_some_iff.1 hi).1
    simp only [hasB, Bool.and_eq_true, decide_eq_true_eq] at hm2
    refine .inr ⟨maxF h l, ⟨by omega, by rw [show ((maxF h l).num - 1).toNat = i by omega]; exact hi, hm2.2⟩, hm2.1, rfl, rfl⟩
set_option maxHeartbeats 1600000 in
theorem GrantPaths_ok {w0 : World} {F : List HProp} {a : Option Addr} {c : Nat} {os : List Oc} {now : Int} {who : Str} (hn : os.length ≤ 9223372036854775807) (hk : ∀ o ∈ os, 0 ≤ o.k ∧ o.k ≤ 255) (hr : RdO w0 F (.slice a os.length c) os.length (os.flatMap ocl)) :
    FnO Try.prog w0 13 [.slice a os.length c, .int .i64 now, .string who] F (fun r _ => r = .bool true) := by
  refine FnO.intro (n := 204) Try.func13 rfl rfl rfl ?_
  refine J.seq ?_
  refine J.region ?_
  refine JL.pure rfl rfl (OpP.assign rfl) ?_
  refine JL.nil ?_
  refine J.seq ?_
  refine J.seq ?_
  refine J.region ?_
  refine JL.step rfl rfl (OpW.call (first := []) (captured := []) inferInstance rfl rfl awake_ok) ?_; rintro r15 _ ⟨rfl, rfl⟩
  refine JL.pure rfl rfl (OpP.notB rfl) ?_
  refine JL.pure rfl rfl (OpP.move rfl) ?_
  refine JL.pure rfl rfl (OpP.move rfl) ?_
  refine JL.step rfl rfl (OpW.call (first := []) (captured := []) inferInstance rfl rfl (few_ok hn hr)) ?_; rintro r19 _ ⟨b, ⟨rfl, ⟨rfl, h19⟩⟩⟩
  refine JL.pure rfl rfl (OpP.notB rfl) ?_
  refine JL.pure rfl rfl (OpP.pickF rfl rfl) ?_
  refine JL.pure rfl rfl (OpP.move rfl) ?_
  refine JL.splitAt 22 rfl (fun h22 => ?_) (fun h22 => ?_)
  focus
    refine JL.skip rfl rfl ?_
    refine JL.skip rfl rfl ?_
    refine JL.skip rfl rfl ?_
    refine JL.pure rfl rfl (OpP.pickT rfl rfl) ?_
    refine JL.nil ?_
    refine J.condT rfl ?_
    refine J.seq ?_
    refine J.region ?_
    refine JL.step rfl rfl (OpW.call (first := []) (captured := []) inferInstance rfl rfl awake_ok) ?_; rintro r27 _ ⟨rfl, rfl⟩
    refine JL.pure rfl rfl (OpP.assign rfl) ?_
    refine JL.nil ?_
    refine J.ret1 rfl rfl ?_
  rotate_left 1
  focus
    refine JL.pure rfl rfl (OpP.move rfl) ?_
    refine JL.pure rfl rfl (OpP.lenStr rfl rfl) ?_
    refine JL.dec rfl rfl (OpP.gtr rfl rfl) (fun h25 => ?_) (fun h25 => ?_)
    focus
      refine JL.pure rfl rfl (OpP.pickF rfl rfl) ?_
      refine JL.nil ?_
      refine J.condT rfl ?_
      refine J.seq ?_
      refine J.region ?_
      refine JL.step rfl rfl (OpW.call (first := []) (captured := []) inferInstance rfl rfl awake_ok) ?_; rintro r27 _ ⟨rfl, rfl⟩
      refine JL.pure rfl rfl (OpP.assign rfl) ?_
      refine JL.nil ?_
      refine J.ret1 rfl rfl ?_
    rotate_left 1
    focus
      refine JL.pure rfl rfl (OpP.pickF rfl rfl) ?_
      refine JL.nil ?_
      refine J.condF rfl ?_
      refine J.skip ?_
    rotate_left 1
  rotate_left 2
  · rfl
  · rfl
  rename_i F
  have hfw := h19 (by simp_all)
  have hm := fun (l : List HProp) (hl : RdO w0 l (.slice a os.length c) os.length (os.flatMap ocl)) => made_ok (by omega) (ocs_ok hk hfw) hl
  have hI := madeF_inv os
  generalize madeF os = gs at *
  have hlen40 := hI.len
  unfold ledL at hm
  refine J.seq ?_
  refine J.region ?_
  refine JL.pure rfl rfl (OpP.move rfl) ?_
  refine JL.step rfl rfl (OpW.call (first := []) (captured := []) inferInstance rfl rfl (hm _ hr)) ?_; rintro r30 _ ⟨x, ⟨a1, ⟨c1, ⟨a2, ⟨c2, ⟨rfl, rfl⟩⟩⟩⟩⟩⟩
  refine JL.pure rfl rfl (OpP.move rfl) ?_
  refine JL.pure rfl rfl (OpP.extract rfl rfl) ?_
  refine JL.pure rfl rfl (OpP.extract rfl rfl) ?_
  refine JL.pure rfl rfl (OpP.assign rfl) ?_
  refine JL.pure rfl rfl (OpP.assign rfl) ?_
  refine JL.nil ?_
  have hP := fun (l : List HProp) (hl : Led w0 l x a1 c1 gs) => Path_ok (now := now) (who := who) hl hI
  have hA := fun (l : List HProp) (hl : Led w0 l x a1 c1 gs) => auth_ok (now := now) (who := who) hl hI.wf hI.dep
  have hG := fun (l : List HProp) (hl : Led w0 l x a1 c1 gs) => Grants_ok hl (by omega)
  have hLed : Led w0 (row x 82 [.slice a1 gs.length c1] :: own 62 7 (.slice a1 gs.length c1) gs.length (gs.flatMap gcl) :: own 62 7 (.slice a2 gs.length c2) gs.length (gs.flatMap gcl) :: F) x a1 c1 gs := led_of
  by_cases hw : who = rootS
  · rw [show pathF gs now who = [] by rw [pathF, if_pos hw]] at hP
    refine J.seq ?_
    refine J.region ?_
    refine JL.pure rfl rfl (OpP.move rfl) ?_
    refine JL.pure rfl rfl (OpP.move rfl) ?_
    refine JL.pure rfl rfl (OpP.move rfl) ?_
    refine JL.step rfl rfl (OpW.call (first := []) (captured := []) inferInstance rfl rfl (hP _ hLed)) ?_; rintro r36 _ ⟨a3, ⟨c3, ⟨rfl, rfl⟩⟩⟩
    refine JL.pure rfl rfl (OpP.assign rfl) ?_
    refine JL.nil ?_
    refine J.seq ?_
    refine J.region ?_
    refine JL.pure rfl rfl (OpP.move rfl) ?_
    refine JL.pure rfl rfl (OpP.move rfl) ?_
    refine JL.pure rfl rfl (OpP.move rfl) ?_
    refine JL.step rfl rfl (OpW.call (first := []) (captured := []) inferInstance rfl rfl (hA _ (hLed.conv fun _ h => Own.pick (pre := [_, _, _, _]) [1, 2, 3] rfl h))) ?_; rintro r41 _ ⟨rfl, rfl⟩
    refine JL.pure rfl rfl (OpP.move rfl) ?_
    refine JL.pure rfl rfl (OpP.extract rfl rfl) ?_
    refine JL.pure rfl rfl (OpP.extract rfl rfl) ?_
    refine JL.pure rfl rfl (OpP.assign rfl) ?_
    refine JL.pure rfl rfl (OpP.assign rfl) ?_
    refine JL.nil ?_
    refine J.seq ?_
    refine J.seq ?_
    refine J.region ?_
    refine JL.pure rfl rfl (OpP.move rfl) ?_
    refine JL.decT rfl rfl (OpP.eqStr rfl rfl) (by omega) ?_
    refine JL.pure rfl rfl (OpP.move rfl) ?_
    refine JL.skip rfl rfl ?_
    refine JL.skip rfl rfl ?_
    refine JL.pure rfl rfl (OpP.pickT rfl rfl) ?_
    refine JL.nil ?_
    refine J.condT rfl ?_
    refine J.seq ?_
    refine J.region ?_
    refine JL.pure rfl rfl (OpP.move rfl) ?_
    refine JL.pure rfl rfl (OpP.len rfl rfl) ?_
    refine JL.decT rfl rfl (OpP.eql rfl rfl) (by decide) ?_
    refine JL.pure rfl rfl (OpP.assign rfl) ?_
    refine JL.nil ?_
    refine J.ret1 rfl rfl ?_
    rfl
  · have hw2 : ¬ who = ⟨#[114, 111, 111, 116]⟩ := hw
    rcases path_of (now := now) hI hw with ⟨h1, h2⟩ | ⟨k, hcur, hkt, hau, hpa⟩
    · rw [h2] at hP
      rw [h1] at hA
      refine J.seq ?_
      refine J.region ?_
      refine JL.pure rfl rfl (OpP.move rfl) ?_
      refine JL.pure rfl rfl (OpP.move rfl) ?_
      refine JL.pure rfl rfl (OpP.move rfl) ?_
      refine JL.step rfl rfl (OpW.call (first := []) (captured := []) inferInstance rfl rfl (hP _ hLed)) ?_; rintro r36 _ ⟨a3, ⟨c3, ⟨rfl, rfl⟩⟩⟩
      refine JL.pure rfl rfl (OpP.assign rfl) ?_
      refine JL.nil ?_
      refine J.seq ?_
      refine J.region ?_
      refine JL.pure rfl rfl (OpP.move rfl) ?_
      refine JL.pure rfl rfl (OpP.move rfl) ?_
      refine JL.pure rfl rfl (OpP.move rfl) ?_
      refine JL.step rfl rfl (OpW.call (first := []) (captured := []) inferInstance rfl rfl (hA _ (hLed.conv fun _ h => Own.pick (pre := [_, _, _, _]) [1, 2, 3] rfl h))) ?_; rintro r41 _ ⟨rfl, rfl⟩
      refine JL.pure rfl rfl (OpP.move rfl) ?_
      refine JL.pure rfl rfl (OpP.extract rfl rfl) ?_
      refine JL.pure rfl rfl (OpP.extract rfl rfl) ?_
      refine JL.pure rfl rfl (OpP.assign rfl) ?_
      refine JL.pure rfl rfl (OpP.assign rfl) ?_
      refine JL.nil ?_
      refine J.seq ?_
      refine J.seq ?_
      refine J.region ?_
      refine JL.pure rfl rfl (OpP.move rfl) ?_
      refine JL.decF rfl rfl (OpP.eqStr rfl rfl) (by omega) ?_
      refine JL.pure rfl rfl (OpP.move rfl) ?_
      refine JL.pure rfl rfl (OpP.move rfl) ?_
      refine JL.pure rfl rfl (OpP.notB rfl) ?_
      refine JL.pure rfl rfl (OpP.pickF rfl rfl) ?_
      refine JL.nil ?_
      refine J.condT rfl ?_
      refine J.seq ?_
      refine J.region ?_
      refine JL.pure rfl rfl (OpP.move rfl) ?_
      refine JL.pure rfl rfl (OpP.len rfl rfl) ?_
      refine JL.decT rfl rfl (OpP.eql rfl rfl) (by decide) ?_
      refine JL.pure rfl rfl (OpP.assign rfl) ?_
      refine JL.nil ?_
      refine J.ret1 rfl rfl ?_
      rfl
    · rw [hpa] at hP
      rw [hau] at hA
      subst hkt
      dsimp only at hA
      have hkn := hcur.num
      have hkat := hcur.at_
      have hkd := (hI.at_ _ _ hkat).2.1
      unfold DepOk at hkd
      have hcl := cur_len hI _ k (Nat.le_refl _) hcur
      have hlen7 : ∀ g ∈ gs, (gcl g).length = 7 := fun _ _ => rfl
      obtain ⟨rest, hQ⟩ : ∃ rest, upL gs k.num = k :: rest := by
        rcases (cur_next hI hcur).2 with ⟨_, _, h⟩ | ⟨_, p, _, _, _, _, _, h⟩
        · exact ⟨_, h⟩
        · exact ⟨_, h⟩
      generalize hQd : upL gs k.num = Q at *
      have hQl : 1 ≤ (Q.map (·.num)).length ∧ (Q.map (·.num)).length ≤ 6 := by rw [List.length_map]; rw [hQ] at hcl ⊢; simp at hcl ⊢; omega
      have hP0 : (icells (Q.map (·.num)))[0]? = some (.int .i64 k.num) := by rw [hQ]; rfl
      have hPg : ∀ (j : Nat) (g : Gr), Q[j]? = some g → (icells (Q.map (·.num)))[j]? = some (.int .i64 g.num) := fun j g h => icells_get (by rw [List.getElem?_map, h]; rfl)
      have hQQ : Q.length = (Q.map (·.num)).length := (List.length_map ..).symm
      generalize Q.map (·.num) = P at *
      refine J.seq ?_
      refine J.region ?_
      refine JL.pure rfl rfl (OpP.move rfl) ?_
      refine JL.pure rfl rfl (OpP.move rfl) ?_
      refine JL.pure rfl rfl (OpP.move rfl) ?_
      refine JL.step rfl rfl (OpW.call (first := []) (captured := []) inferInstance rfl rfl (hP _ hLed)) ?_; rintro r36 _ ⟨a3, ⟨c3, ⟨rfl, rfl⟩⟩⟩
      refine JL.pure rfl rfl (OpP.assign rfl) ?_
      refine JL.nil ?_
      refine J.seq ?_
      refine J.region ?_
      refine JL.pure rfl rfl (OpP.move rfl) ?_
      refine JL.pure rfl rfl (OpP.move rfl) ?_
      refine JL.pure rfl rfl (OpP.move rfl) ?_
      refine JL.step rfl rfl (OpW.call (first := []) (captured := []) inferInstance rfl rfl (hA _ (hLed.conv fun _ h => Own.pick (pre := [_, _, _, _]) [1, 2, 3] rfl h))) ?_; rintro r41 _ ⟨rfl, rfl⟩
      refine JL.pure rfl rfl (OpP.move rfl) ?_
      refine JL.pure rfl rfl (OpP.extract rfl rfl) ?_
      refine JL.pure rfl rfl (OpP.extract rfl rfl) ?_
      refine JL.pure rfl rfl (OpP.assign rfl) ?_
      refine JL.pure rfl rfl (OpP.assign rfl) ?_
      refine JL.nil ?_
      refine J.seq ?_
      refine J.seq ?_
      refine J.region ?_
      refine JL.pure rfl rfl (OpP.move rfl) ?_
      refine JL.decF rfl rfl (OpP.eqStr rfl rfl) (by omega) ?_
      refine JL.pure rfl rfl (OpP.move rfl) ?_
      refine JL.pure rfl rfl (OpP.move rfl) ?_
      refine JL.pure rfl rfl (OpP.notB rfl) ?_
      refine JL.pure rfl rfl (OpP.pickF rfl rfl) ?_
      refine JL.nil ?_
      refine J.condF rfl ?_
      refine J.skip ?_
      refine J.seq ?_
      refine J.region ?_
      refine JL.pure rfl rfl (OpP.move rfl) ?_
      refine JL.step rfl rfl (OpW.call (first := []) (captured := []) inferInstance rfl rfl (hG _ (hLed.conv fun _ h => Own.pick (pre := [_, _, _, _]) [1, 2, 3] rfl h))) ?_; rintro r54 _ ⟨a4, ⟨c4, ⟨rfl, rfl⟩⟩⟩
      refine JL.pure rfl rfl (OpP.assign rfl) ?_
      refine JL.nil ?_
      refine J.seq ?_
      refine J.seq ?_
      refine J.region ?_
      refine JL.pure rfl rfl (OpP.move rfl) ?_
      refine JL.pure rfl rfl (OpP.len rfl rfl) ?_
      refine JL.decF rfl rfl (OpP.eql rfl rfl) (by omega) ?_
      refine JL.pure rfl rfl (OpP.move rfl) ?_
      refine JL.pure rfl rfl (OpP.move rfl) ?_
      refine JL.pure rfl rfl (OpP.len rfl rfl) ?_
      refine JL.decF rfl rfl (OpP.gtr rfl rfl) (by omega) ?_
      refine JL.pure rfl rfl (OpP.pickF rfl rfl) ?_
      refine JL.pure rfl rfl (OpP.move rfl) ?_
      refine JL.pure rfl rfl (OpP.move rfl) ?_
      refine JL.ownSome (.tail .head) (by omega) fun ga3 pa3 ea3 ka3 => ?_; subst ea3
      refine JL.pure rfl rfl (OpP.indexAddr rfl rfl (by omega) (by omega)) ?_
      refine JL.read rfl rfl (OpR.load1 rfl (by apply Cells.cell (hv := hP0) (Cells.own (.tail .head)) (fun _ h => h); omega)) ?_
      refine JL.decF rfl rfl (OpP.lss rfl rfl) (by omega) ?_
      refine JL.pure rfl rfl (OpP.pickF rfl rfl) ?_
      refine JL.pure rfl rfl (OpP.move rfl) ?_
      refine JL.pure rfl rfl (OpP.move rfl) ?_
      refine JL.pure rfl rfl (OpP.indexAddr rfl rfl (by omega) (by omega)) ?_
      refine JL.read rfl rfl (OpR.load1 rfl (by apply Cells.cell (hv := hP0) (Cells.own (.tail .head)) (fun _ h => h); omega)) ?_
      refine JL.pure rfl rfl (OpP.move rfl) ?_
      refine JL.pure rfl rfl (OpP.len rfl rfl) ?_
      refine JL.decF rfl rfl (OpP.gtr rfl rfl) (by omega) ?_
      refine JL.pure rfl rfl (OpP.pickF rfl rfl) ?_
      refine JL.pure rfl rfl (OpP.move rfl) ?_
      refine JL.pure rfl rfl (OpP.move rfl) ?_
      refine JL.pure rfl rfl (OpP.move rfl) ?_
      refine JL.pure rfl rfl (OpP.indexAddr rfl rfl (by omega) (by omega)) ?_
      refine JL.read rfl rfl (OpR.load1 rfl (by apply Cells.cell (hv := hP0) (Cells.own (.tail .head)) (fun _ h => h); omega)) ?_
      refine JL.pure rfl rfl (OpP.subI rfl rfl (by omega) (by omega)) ?_
      refine JL.ownSome .head (by omega) fun ga4 pa4 ea4 ka4 => ?_; subst ea4
      refine JL.pure rfl rfl (OpP.indexAddr rfl rfl (by omega) (by omega)) ?_
      refine JL.pure rfl rfl (OpP.fieldAddr rfl) ?_
      refine JL.read rfl rfl (OpR.load1 rfl (by apply Cells.cellChunk (j := 2) (Cells.own .head) (fun _ h => h); (case' h => assumption); (case' hi => assumption); (case' hv => rfl); (case' ho => omega); done)) ?_
      refine JL.pure rfl rfl (OpP.move rfl) ?_
      refine JL.dec rfl rfl (OpP.neStr rfl rfl) (fun h87 => ?_) (fun h87 => ?_)
      focus
        refine JL.pure rfl rfl (OpP.pickF rfl rfl) ?_
        refine JL.pure rfl rfl (OpP.move rfl) ?_
        refine JL.skip rfl rfl ?_
        refine JL.skip rfl rfl ?_
        refine JL.skip rfl rfl ?_
        refine JL.skip rfl rfl ?_
        refine JL.skip rfl rfl ?_
        refine JL.skip rfl rfl ?_
        refine JL.skip rfl rfl ?_
        refine JL.skip rfl rfl ?_
        refine JL.skip rfl rfl ?_
        refine JL.skip rfl rfl ?_
        refine JL.pure rfl rfl (OpP.pickT rfl rfl) ?_
        refine JL.nil ?_
        refine J.condT rfl ?_
        refine J.seq ?_
        refine J.region ?_
        refine JL.pure rfl rfl (OpP.assign rfl) ?_
        refine JL.nil ?_
        refine J.ret1 rfl rfl ?_
      rotate_left 1
      focus
        refine JL.pure rfl rfl (OpP.pickF rfl rfl) ?_
        refine JL.pure rfl rfl (OpP.move rfl) ?_
        refine JL.pure rfl rfl (OpP.move rfl) ?_
        refine JL.pure rfl rfl (OpP.move rfl) ?_
        refine JL.pure rfl rfl (OpP.indexAddr rfl rfl (by omega) (by omega)) ?_
        refine JL.read rfl rfl (OpR.load1 rfl (by apply Cells.cell (hv := hP0) (Cells.own (.tail .head)) (fun _ h => h); omega)) ?_
        refine JL.pure rfl rfl (OpP.subI rfl rfl (by omega) (by omega)) ?_
        refine JL.pure rfl rfl (OpP.indexAddr rfl rfl (by omega) (by omega)) ?_
        refine JL.pure rfl rfl (OpP.fieldAddr rfl) ?_
        refine JL.read rfl rfl (OpR.load1 rfl (by apply Cells.cellChunk (j := 3) (Cells.own .head) (fun _ h => h); (case' h => assumption); (case' hi => assumption); (case' hv => rfl); (case' ho => omega); done)) ?_
        refine JL.pure rfl rfl (OpP.move rfl) ?_
        refine JL.decF rfl rfl (OpP.neq rfl rfl) (by omega) ?_
        refine JL.pure rfl rfl (OpP.pickF rfl rfl) ?_
        refine JL.nil ?_
        refine J.condF rfl ?_
        refine J.skip ?_
        refine J.seq ?_
        refine J.seq ?_
        refine J.region ?_
        refine JL.pure rfl rfl (OpP.assign rfl) ?_
        refine JL.nil ?_
        refine J.block ?_
      rotate_left 1
      · exfalso; simp_all
      refine J.loopI (fun z : Nat × Gr => P.length - z.1) (fun z => z.1 < P.length ∧ Cur gs now z.2 ∧ Q.drop z.1 = upL gs z.2.num) (fun z => [(13, .int .i64 (z.1 : Nat)), (12, .slice (some ⟨ga4, pa4, none⟩) gs.length c4), (9, .slice (some ⟨ga3, pa3, none⟩) P.length c3), (7, .pointer (some ⟨x, 0, none⟩)), (1, .int .i64 now)])
        (fun _ => own 62 7 (.slice (some ⟨ga4, pa4, none⟩) gs.length c4) gs.length (gs.flatMap gcl) :: own 3 1 (.slice (some ⟨ga3, pa3, none⟩) P.length c3) P.length (icells P) :: row x 82 [.slice a1 gs.length c1] :: own 62 7 (.slice a1 gs.length c1) gs.length (gs.flatMap gcl) :: own 62 7 (.slice a2 gs.length c2) gs.length (gs.flatMap gcl) :: F) (0, k) ⟨by dsimp only; omega, hcur, hQd.symm⟩ (by repeat (first | exact SubEnv.nil | refine SubEnv.cons (by first | rfl | exact congrArg (fun z => some (Value.int .i64 z)) (by omega) | (simp; done)) ?_)) (fun _ h => h) (fun ⟨j, g⟩ hi back => ?_)
      dsimp only at hi back ⊢
      obtain ⟨hj, hgc, hdr⟩ := hi
      have hgn := hgc.num
      have hgat := hgc.at_
      have hal := fun (l : List HProp) (hl : Led w0 l x a1 c1 gs) => alive_ok (now := now) (n := g.num) hl hI.wf
      rw [decide_eq_true hgc.alive] at hal
      obtain ⟨hdead, ⟨hpar, hfr, hu⟩ | ⟨hpar, p, hpc, hpn, hplt, hpto, hpd, hu⟩⟩ := cur_next hI hgc
      · have hQj : Q[j]? = some g := by rw [← List.head?_drop, hdr, hu]; rfl
        have hPj := hPg j g hQj
        have hend : P.length = j + 1 := by
          have := congrArg List.length (hdr.trans hu)
          rw [List.length_drop, List.length_singleton] at this
          omega
        simp [deadB] at hdead
        obtain ⟨hd1, hd2⟩ := hdead
        refine J.seq ?_
        refine J.seq ?_
        refine J.region ?_
        refine JL.pure rfl rfl (OpP.move rfl) ?_
        refine JL.pure rfl rfl (OpP.move rfl) ?_
        refine JL.pure rfl rfl (OpP.len rfl rfl) ?_
        refine JL.decT rfl rfl (OpP.lss rfl rfl) (by omega) ?_
        refine JL.nil ?_
        refine J.condT rfl ?_
        refine J.skip ?_
        refine J.seq ?_
        refine J.block ?_
        refine J.seq ?_
        refine J.region ?_
        refine JL.pure rfl rfl (OpP.move rfl) ?_
        refine JL.pure rfl rfl (OpP.move rfl) ?_
        refine JL.pure rfl rfl (OpP.move rfl) ?_
        refine JL.pure rfl rfl (OpP.indexAddr rfl rfl (by omega) (by omega)) ?_
        refine JL.read rfl rfl (OpR.load1 rfl (by apply Cells.cell (hv := hPj) (Cells.own (.tail .head)) (fun _ h => h); omega)) ?_
        refine JL.pure rfl rfl (OpP.subI rfl rfl (by omega) (by omega)) ?_
        refine JL.pure rfl rfl (OpP.indexAddr rfl rfl (by omega) (by omega)) ?_
        refine JL.read rfl rfl (OpR.loadN rfl (by apply Cells.chunkAt (Cells.own .head); (case' h => assumption); (case' hi => assumption); done) (by first | rfl | assumption)) ?_
        refine JL.mem rfl rfl OpM.alloc ?_; rintro _ _ ⟨b14, rfl, rfl⟩
        refine JL.mem0 rfl (by apply OpM.storeN rfl rfl (by rfl) (oneC rfl (oneC rfl (oneC rfl (oneC rfl (oneC rfl (oneC rfl (one1 rfl))))))); (case' hu => exact .head); (case' hs => exact (.here (.here (.here (.here (.here (.here (.here .nil)))))))); done) ?_; rintro _ _ ⟨rfl, rfl⟩
        refine JL.nil ?_
        refine J.seq ?_
        refine J.seq ?_
        refine J.region ?_
        refine JL.pure rfl rfl (OpP.move rfl) ?_
        refine JL.pure rfl rfl (OpP.move rfl) ?_
        refine JL.pure rfl rfl (OpP.move rfl) ?_
        refine JL.pure rfl rfl (OpP.move rfl) ?_
        refine JL.pure rfl rfl (OpP.indexAddr rfl rfl (by omega) (by omega)) ?_
        refine JL.read rfl rfl (OpR.load1 rfl (by apply Cells.cell (hv := hPj) (Cells.own (.tail (.tail .head))) (fun _ h => h); omega)) ?_
        refine JL.step rfl rfl (OpW.call (first := []) (captured := []) inferInstance rfl rfl (hal _ (hLed.conv fun _ h => Own.pick (pre := [_, _, _, _, _, _]) [3, 4, 5] rfl h))) ?_; rintro r121 _ ⟨rfl, rfl⟩
        refine JL.pure rfl rfl (OpP.notB rfl) ?_
        refine JL.pure rfl rfl (OpP.move rfl) ?_
        refine JL.pure rfl rfl (OpP.fieldAddr rfl) ?_
        refine JL.read rfl rfl (OpR.load1 rfl (Cell.row .head rfl)) ?_
        refine JL.pure rfl rfl (OpP.pickF rfl rfl) ?_
        refine JL.pure rfl rfl (OpP.move rfl) ?_
        refine JL.splitAt 127 rfl (fun h127 => ?_) (fun h127 => ?_)
        focus
          refine JL.skip rfl rfl ?_
          refine JL.skip rfl rfl ?_
          refine JL.skip rfl rfl ?_
          refine JL.skip rfl rfl ?_
          refine JL.pure rfl rfl (OpP.pickT rfl rfl) ?_
          refine JL.nil ?_
          refine J.condT rfl ?_
          refine J.seq ?_
          refine J.region ?_
          refine JL.pure rfl rfl (OpP.assign rfl) ?_
          refine JL.nil ?_
          refine J.ret1 rfl rfl ?_
        rotate_left 1
        focus
          refine JL.pure rfl rfl (OpP.fieldAddr rfl) ?_
          refine JL.read rfl rfl (OpR.load1 rfl (Cell.row .head rfl)) ?_
          refine JL.pure rfl rfl (OpP.move rfl) ?_
          refine JL.decF rfl rfl (OpP.leq rfl rfl) (by omega) ?_
          refine JL.pure rfl rfl (OpP.pickF rfl rfl) ?_
          refine JL.nil ?_
          refine J.condF rfl ?_
          refine J.skip ?_
          refine J.seq ?_
          refine J.seq ?_
          refine J.region ?_
          refine JL.pure rfl rfl (OpP.move rfl) ?_
          refine JL.pure rfl rfl (OpP.addI rfl rfl (by omega) (by omega)) ?_
          refine JL.pure rfl rfl (OpP.move rfl) ?_
          refine JL.pure rfl rfl (OpP.len rfl rfl) ?_
          refine JL.decT rfl rfl (OpP.eql rfl rfl) (by omega) ?_
          refine JL.nil ?_
          refine J.condT rfl ?_
          refine J.seq ?_
          refine J.region ?_
          refine JL.pure rfl rfl (OpP.fieldAddr rfl) ?_
          refine JL.read rfl rfl (OpR.load1 rfl (Cell.row .head rfl)) ?_
          refine JL.decT rfl rfl (OpP.eqStr rfl rfl) (by omega) ?_
          refine JL.pure rfl rfl (OpP.move rfl) ?_
          refine JL.pure rfl rfl (OpP.fieldAddr rfl) ?_
          refine JL.read rfl rfl (OpR.load1 rfl (Cell.row .head rfl)) ?_
          refine JL.decT rfl rfl (OpP.eql rfl rfl) (by omega) ?_
          refine JL.pure rfl rfl (OpP.pickT rfl rfl) ?_
          refine JL.pure rfl rfl (OpP.assign rfl) ?_
          refine JL.nil ?_
          refine J.ret1 rfl rfl ?_
        rotate_left 1
        · exact absurd (show g.rev = true by assumption) (by rw [hd1]; decide)
        · rfl
      · have hQj : Q[j]? = some g := by rw [← List.head?_drop, hdr, hu]; rfl
        have hPj := hPg j g hQj
        have hdr2 : Q.drop (j + 1) = upL gs p.num := by rw [← List.drop_drop, hdr, hu]; rfl
        have hpu : ∃ rest, upL gs p.num = p :: rest := by
          rcases (cur_next hI hpc).2 with ⟨_, _, h⟩ | ⟨_, p, _, _, _, _, _, h⟩
          · exact ⟨_, h⟩
          · exact ⟨_, h⟩
        obtain ⟨rest2, hpu⟩ := hpu
        have hQj2 : Q[j + 1]? = some p := by rw [← List.head?_drop, hdr2, hpu]; rfl
        have hPj2 := hPg (j + 1) p hQj2
        have hlt2 : j + 1 < P.length := by have := (List.getElem?_eq_some_iff.1 hQj2).1; omega
        have hpcn := hpc.num
        have hpat := hpc.at_
        simp [deadB] at hdead
        obtain ⟨hd1, hd2⟩ := hdead
        refine J.seq ?_
        refine J.seq ?_
        refine J.region ?_
        refine JL.pure rfl rfl (OpP.move rfl) ?_
        refine JL.pure rfl rfl (OpP.move rfl) ?_
        refine JL.pure rfl rfl (OpP.len rfl rfl) ?_
        refine JL.decT rfl rfl (OpP.lss rfl rfl) (by omega) ?_
        refine JL.nil ?_
        refine J.condT rfl ?_
        refine J.skip ?_
        refine J.seq ?_
        refine J.block ?_
        refine J.seq ?_
        refine J.region ?_
        refine JL.pure rfl rfl (OpP.move rfl) ?_
        refine JL.pure rfl rfl (OpP.move rfl) ?_
        refine JL.pure rfl rfl (OpP.move rfl) ?_
        refine JL.pure rfl rfl (OpP.indexAddr rfl rfl (by omega) (by omega)) ?_
        refine JL.read rfl rfl (OpR.load1 rfl (by apply Cells.cell (hv := hPj) (Cells.own (.tail .head)) (fun _ h => h); omega)) ?_
        refine JL.pure rfl rfl (OpP.subI rfl rfl (by omega) (by omega)) ?_
        refine JL.pure rfl rfl (OpP.indexAddr rfl rfl (by omega) (by omega)) ?_
        refine JL.read rfl rfl (OpR.loadN rfl (by apply Cells.chunkAt (Cells.own .head); (case' h => assumption); (case' hi => assumption); done) (by first | rfl | assumption)) ?_
        refine JL.mem rfl rfl OpM.alloc ?_; rintro _ _ ⟨b14, rfl, rfl⟩
        refine JL.mem0 rfl (by apply OpM.storeN rfl rfl (by rfl) (oneC rfl (oneC rfl (oneC rfl (oneC rfl (oneC rfl (oneC rfl (one1 rfl))))))); (case' hu => exact .head); (case' hs => exact (.here (.here (.here (.here (.here (.here (.here .nil)))))))); done) ?_; rintro _ _ ⟨rfl, rfl⟩
        refine JL.nil ?_
        refine J.seq ?_
        refine J.seq ?_
        refine J.region ?_
        refine JL.pure rfl rfl (OpP.move rfl) ?_
        refine JL.pure rfl rfl (OpP.move rfl) ?_
        refine JL.pure rfl rfl (OpP.move rfl) ?_
        refine JL.pure rfl rfl (OpP.move rfl) ?_
        refine JL.pure rfl rfl (OpP.indexAddr rfl rfl (by omega) (by omega)) ?_
        refine JL.read rfl rfl (OpR.load1 rfl (by apply Cells.cell (hv := hPj) (Cells.own (.tail (.tail .head))) (fun _ h => h); omega)) ?_
        refine JL.step rfl rfl (OpW.call (first := []) (captured := []) inferInstance rfl rfl (hal _ (hLed.conv fun _ h => Own.pick (pre := [_, _, _, _, _, _]) [3, 4, 5] rfl h))) ?_; rintro r121 _ ⟨rfl, rfl⟩
        refine JL.pure rfl rfl (OpP.notB rfl) ?_
        refine JL.pure rfl rfl (OpP.move rfl) ?_
        refine JL.pure rfl rfl (OpP.fieldAddr rfl) ?_
        refine JL.read rfl rfl (OpR.load1 rfl (Cell.row .head rfl)) ?_
        refine JL.pure rfl rfl (OpP.pickF rfl rfl) ?_
        refine JL.pure rfl rfl (OpP.move rfl) ?_
        refine JL.splitAt 127 rfl (fun h127 => ?_) (fun h127 => ?_)
        focus
          refine JL.skip rfl rfl ?_
          refine JL.skip rfl rfl ?_
          refine JL.skip rfl rfl ?_
          refine JL.skip rfl rfl ?_
          refine JL.pure rfl rfl (OpP.pickT rfl rfl) ?_
          refine JL.nil ?_
          refine J.condT rfl ?_
          refine J.seq ?_
          refine J.region ?_
          refine JL.pure rfl rfl (OpP.assign rfl) ?_
          refine JL.nil ?_
          refine J.ret1 rfl rfl ?_
        rotate_left 1
        focus
          refine JL.pure rfl rfl (OpP.fieldAddr rfl) ?_
          refine JL.read rfl rfl (OpR.load1 rfl (Cell.row .head rfl)) ?_
          refine JL.pure rfl rfl (OpP.move rfl) ?_
          refine JL.decF rfl rfl (OpP.leq rfl rfl) (by omega) ?_
          refine JL.pure rfl rfl (OpP.pickF rfl rfl) ?_
          refine JL.nil ?_
          refine J.condF rfl ?_
          refine J.skip ?_
          refine J.seq ?_
          refine J.seq ?_
          refine J.region ?_
          refine JL.pure rfl rfl (OpP.move rfl) ?_
          refine JL.pure rfl rfl (OpP.addI rfl rfl (by omega) (by omega)) ?_
          refine JL.pure rfl rfl (OpP.move rfl) ?_
          refine JL.pure rfl rfl (OpP.len rfl rfl) ?_
          refine JL.decF rfl rfl (OpP.eql rfl rfl) (by omega) ?_
          refine JL.nil ?_
          refine J.condF rfl ?_
          refine J.skip ?_
          refine J.seq ?_
          refine J.regionD [4, 8, 15, 23, 25, 34, 38, 40, 49, 53, 55] (by kernel_rfl) ?_
          refine DL.pure (i := 0) (by kernel_rfl) (by kernel_rfl) rfl rfl rfl (OpP.move rfl) ?_
          refine DL.pure (i := 1) (by kernel_rfl) (by kernel_rfl) rfl rfl rfl (OpP.move rfl) ?_
          refine DL.pure (i := 2) (by kernel_rfl) (by kernel_rfl) rfl rfl rfl (OpP.addI rfl rfl (by omega) (by omega)) ?_
          refine DL.pure (i := 3) (by kernel_rfl) (by kernel_rfl) rfl rfl rfl (OpP.indexAddr rfl rfl (by omega) (by omega)) ?_
          refine DL.read (i := 4) (by kernel_rfl) (by kernel_rfl) rfl rfl rfl (fun _ h => h) (OpR.load1 rfl (by apply Cells.cell (hv := hPj2) (Cells.own (.tail (.tail .head))) (fun _ h => h); omega)) ?_
          refine DL.pure (i := 5) (by kernel_rfl) (by kernel_rfl) rfl rfl rfl (OpP.move rfl) ?_
          refine DL.pure (i := 6) (by kernel_rfl) (by kernel_rfl) rfl rfl rfl (OpP.move rfl) ?_
          refine DL.pure (i := 7) (by kernel_rfl) (by kernel_rfl) rfl rfl rfl (OpP.indexAddr rfl rfl (by omega) (by omega)) ?_
          refine DL.read (i := 8) (by kernel_rfl) (by kernel_rfl) rfl rfl rfl (fun _ h => h) (OpR.load1 rfl (by apply Cells.cell (hv := hPj) (Cells.own (.tail (.tail .head))) (fun _ h => h); omega)) ?_
          refine DL.decF (i := 9) (by kernel_rfl) (by kernel_rfl) rfl rfl rfl (OpP.geq rfl rfl) (by omega) ?_
          refine DL.pure (i := 10) (by kernel_rfl) (by kernel_rfl) rfl rfl rfl (OpP.move rfl) ?_
          refine DL.pure (i := 11) (by kernel_rfl) (by kernel_rfl) rfl rfl rfl (OpP.move rfl) ?_
          refine DL.pure (i := 12) (by kernel_rfl) (by kernel_rfl) rfl rfl rfl (OpP.move rfl) ?_
          refine DL.pure (i := 13) (by kernel_rfl) (by kernel_rfl) rfl rfl rfl (OpP.addI rfl rfl (by omega) (by omega)) ?_
          refine DL.pure (i := 14) (by kernel_rfl) (by kernel_rfl) rfl rfl rfl (OpP.indexAddr rfl rfl (by omega) (by omega)) ?_
          refine DL.read (i := 15) (by kernel_rfl) (by kernel_rfl) rfl rfl rfl (fun _ h => h) (OpR.load1 rfl (by apply Cells.cell (hv := hPj2) (Cells.own (.tail (.tail .head))) (fun _ h => h); omega)) ?_
          refine DL.decF (i := 16) (by kernel_rfl) (by kernel_rfl) rfl rfl rfl (OpP.lss rfl rfl) (by omega) ?_
          refine DL.pure (i := 17) (by kernel_rfl) (by kernel_rfl) rfl rfl rfl (OpP.pickF rfl rfl) ?_
          refine DL.pure (i := 18) (by kernel_rfl) (by kernel_rfl) rfl rfl rfl (OpP.move rfl) ?_
          refine DL.pure (i := 19) (by kernel_rfl) (by kernel_rfl) rfl rfl rfl (OpP.move rfl) ?_
          refine DL.pure (i := 20) (by kernel_rfl) (by kernel_rfl) rfl rfl rfl (OpP.move rfl) ?_
          refine DL.pure (i := 21) (by kernel_rfl) (by kernel_rfl) rfl rfl rfl (OpP.addI rfl rfl (by omega) (by omega)) ?_
          refine DL.pure (i := 22) (by kernel_rfl) (by kernel_rfl) rfl rfl rfl (OpP.indexAddr rfl rfl (by omega) (by omega)) ?_
          refine DL.read (i := 23) (by kernel_rfl) (by kernel_rfl) rfl rfl rfl (fun _ h => h) (OpR.load1 rfl (by apply Cells.cell (hv := hPj2) (Cells.own (.tail (.tail .head))) (fun _ h => h); omega)) ?_
          refine DL.pure (i := 24) (by kernel_rfl) (by kernel_rfl) rfl rfl rfl (OpP.fieldAddr rfl) ?_
          refine DL.read (i := 25) (by kernel_rfl) (by kernel_rfl) rfl rfl rfl (fun _ h => h) (OpR.load1 rfl (Cell.row .head rfl)) ?_
          refine DL.decF (i := 26) (by kernel_rfl) (by kernel_rfl) rfl rfl rfl (OpP.neq rfl rfl) (by omega) ?_
          refine DL.pure (i := 27) (by kernel_rfl) (by kernel_rfl) rfl rfl rfl (OpP.pickF rfl rfl) ?_
          refine DL.pure (i := 28) (by kernel_rfl) (by kernel_rfl) rfl rfl rfl (OpP.move rfl) ?_
          refine DL.pure (i := 29) (by kernel_rfl) (by kernel_rfl) rfl rfl rfl (OpP.move rfl) ?_
          refine DL.pure (i := 30) (by kernel_rfl) (by kernel_rfl) rfl rfl rfl (OpP.move rfl) ?_
          refine DL.pure (i := 31) (by kernel_rfl) (by kernel_rfl) rfl rfl rfl (OpP.move rfl) ?_
          refine DL.pure (i := 32) (by kernel_rfl) (by kernel_rfl) rfl rfl rfl (OpP.addI rfl rfl (by omega) (by omega)) ?_
          refine DL.pure (i := 33) (by kernel_rfl) (by kernel_rfl) rfl rfl rfl (OpP.indexAddr rfl rfl (by omega) (by omega)) ?_
          refine DL.read (i := 34) (by kernel_rfl) (by kernel_rfl) rfl rfl rfl (fun _ h => h) (OpR.load1 rfl (by apply Cells.cell (hv := hPj2) (Cells.own (.tail (.tail .head))) (fun _ h => h); omega)) ?_
          refine DL.pure (i := 35) (by kernel_rfl) (by kernel_rfl) rfl rfl rfl (OpP.subI rfl rfl (by omega) (by omega)) ?_
          refine DL.pure (i := 36) (by kernel_rfl) (by kernel_rfl) rfl rfl rfl (OpP.indexAddr rfl rfl (by omega) (by omega)) ?_
          refine DL.pure (i := 37) (by kernel_rfl) (by kernel_rfl) rfl rfl rfl (OpP.fieldAddr rfl) ?_
          refine DL.read (i := 38) (by kernel_rfl) (by kernel_rfl) rfl rfl rfl (fun _ h => h) (OpR.load1 rfl (by apply Cells.cellChunk (j := 2) (Cells.own (.tail .head)) (fun _ h => h); (case' h => assumption); (case' hi => assumption); (case' hv => rfl); (case' ho => omega); done)) ?_
          refine DL.pure (i := 39) (by kernel_rfl) (by kernel_rfl) rfl rfl rfl (OpP.fieldAddr rfl) ?_
          refine DL.read (i := 40) (by kernel_rfl) (by kernel_rfl) rfl rfl rfl (fun _ h => h) (OpR.load1 rfl (Cell.row .head rfl)) ?_
          refine DL.dec (i := 41) (by kernel_rfl) (by kernel_rfl) rfl rfl rfl (OpP.neStr rfl rfl) (fun h187 => ?_) (fun h187 => ?_)
          focus
            refine DL.pure (i := 42) (by kernel_rfl) (by kernel_rfl) rfl rfl rfl (OpP.pickF rfl rfl) ?_
            refine DL.pure (i := 43) (by kernel_rfl) (by kernel_rfl) rfl rfl rfl (OpP.move rfl) ?_
            refine DL.skip (i := 44) (by kernel_rfl) (by kernel_rfl) rfl rfl rfl ?_
            refine DL.skip (i := 45) (by kernel_rfl) (by kernel_rfl) rfl rfl rfl ?_
            refine DL.skip (i := 46) (by kernel_rfl) (by kernel_rfl) rfl rfl rfl ?_
            refine DL.skip (i := 47) (by kernel_rfl) (by kernel_rfl) rfl rfl rfl ?_
            refine DL.skip (i := 48) (by kernel_rfl) (by kernel_rfl) rfl rfl rfl ?_
            refine DL.skip (i := 49) (by kernel_rfl) (by kernel_rfl) rfl rfl rfl ?_
            refine DL.skip (i := 50) (by kernel_rfl) (by kernel_rfl) rfl rfl rfl ?_
            refine DL.skip (i := 51) (by kernel_rfl) (by kernel_rfl) rfl rfl rfl ?_
            refine DL.skip (i := 52) (by kernel_rfl) (by kernel_rfl) rfl rfl rfl ?_
            refine DL.skip (i := 53) (by kernel_rfl) (by kernel_rfl) rfl rfl rfl ?_
            refine DL.skip (i := 54) (by kernel_rfl) (by kernel_rfl) rfl rfl rfl ?_
            refine DL.skip (i := 55) (by kernel_rfl) (by kernel_rfl) rfl rfl rfl ?_
            refine DL.skip (i := 56) (by kernel_rfl) (by kernel_rfl) rfl rfl rfl ?_
            refine DL.pure (i := 57) (by kernel_rfl) (by kernel_rfl) rfl rfl rfl (OpP.pickT rfl rfl) ?_
            refine DL.done (by kernel_rfl) ?_
            refine J.condT rfl ?_
            refine J.seq ?_
            refine J.region ?_
            refine JL.pure rfl rfl (OpP.assign rfl) ?_
            refine JL.nil ?_
            refine J.ret1 rfl rfl ?_
          rotate_left 1
          focus
            refine DL.pure (i := 42) (by kernel_rfl) (by kernel_rfl) rfl rfl rfl (OpP.pickF rfl rfl) ?_
            refine DL.pure (i := 43) (by kernel_rfl) (by kernel_rfl) rfl rfl rfl (OpP.move rfl) ?_
            refine DL.pure (i := 44) (by kernel_rfl) (by kernel_rfl) rfl rfl rfl (OpP.move rfl) ?_
            refine DL.pure (i := 45) (by kernel_rfl) (by kernel_rfl) rfl rfl rfl (OpP.move rfl) ?_
            refine DL.pure (i := 46) (by kernel_rfl) (by kernel_rfl) rfl rfl rfl (OpP.move rfl) ?_
            refine DL.pure (i := 47) (by kernel_rfl) (by kernel_rfl) rfl rfl rfl (OpP.addI rfl rfl (by omega) (by omega)) ?_
            refine DL.pure (i := 48) (by kernel_rfl) (by kernel_rfl) rfl rfl rfl (OpP.indexAddr rfl rfl (by omega) (by omega)) ?_
            refine DL.read (i := 49) (by kernel_rfl) (by kernel_rfl) rfl rfl rfl (fun _ h => h) (OpR.load1 rfl (by apply Cells.cell (hv := hPj2) (Cells.own (.tail (.tail .head))) (fun _ h => h); omega)) ?_
            refine DL.pure (i := 50) (by kernel_rfl) (by kernel_rfl) rfl rfl rfl (OpP.subI rfl rfl (by omega) (by omega)) ?_
            refine DL.pure (i := 51) (by kernel_rfl) (by kernel_rfl) rfl rfl rfl (OpP.indexAddr rfl rfl (by omega) (by omega)) ?_
            refine DL.pure (i := 52) (by kernel_rfl) (by kernel_rfl) rfl rfl rfl (OpP.fieldAddr rfl) ?_
            refine DL.read (i := 53) (by kernel_rfl) (by kernel_rfl) rfl rfl rfl (fun _ h => h) (OpR.load1 rfl (by apply Cells.cellChunk (j := 3) (Cells.own (.tail .head)) (fun _ h => h); (case' h => assumption); (case' hi => assumption); (case' hv => rfl); (case' ho => omega); done)) ?_
            refine DL.pure (i := 54) (by kernel_rfl) (by kernel_rfl) rfl rfl rfl (OpP.fieldAddr rfl) ?_
            refine DL.read (i := 55) (by kernel_rfl) (by kernel_rfl) rfl rfl rfl (fun _ h => h) (OpR.load1 rfl (Cell.row .head rfl)) ?_
            refine DL.decF (i := 56) (by kernel_rfl) (by kernel_rfl) rfl rfl rfl (OpP.leq rfl rfl) (by omega) ?_
            refine DL.pure (i := 57) (by kernel_rfl) (by kernel_rfl) rfl rfl rfl (OpP.pickF rfl rfl) ?_
            refine DL.done (by kernel_rfl) ?_
            refine J.condF rfl ?_
            refine J.skip ?_
            refine J.inBlock ?_
            refine J.region ?_
            refine JL.pure rfl rfl (OpP.move rfl) ?_
            refine JL.pure rfl rfl (OpP.addI rfl rfl (by omega) (by omega)) ?_
            refine JL.pure rfl rfl (OpP.assign rfl) ?_
            refine JL.nil ?_
          rotate_left 1
        rotate_left 2
        · first | exact absurd hpto (by assumption) | exact absurd (show g.rev = true by assumption) (by rw [hd1]; decide)
        · first | exact absurd hpto (by assumption) | exact absurd (show g.rev = true by assumption) (by rw [hd1]; decide)
        · exact back (j + 1, p) ⟨by dsimp only; omega, hpc, hdr2⟩ (by dsimp only; omega) (by repeat (first | exact SubEnv.nil | refine SubEnv.cons (by first | rfl | exact congrArg (fun z => some (Value.int .i64 z)) (by omega) | (simp; done)) ?_)) (fun _ h => h.tail)
theorem GrantPaths_law {W : World} {a : Option Addr} {n c : Nat} {now : Int} {who : ByteArray} (h : Fm Try.prog W 40 [.slice a n c]) (_ : (Lit.int .i64 now).wf = true) (_ : who.size ≤ 140737488351232) :
    Calls Try.prog 13 #[.slice a n c, .int .i64 now, .string who] W fun e w' => e = .returned (.bool true) ∧ Below W.heap.size W w' := by
  obtain ⟨os, ho, hn, hr⟩ := Fm.rows (f := ocl) (Q := fun o => 0 ≤ o.k ∧ o.k ≤ 255) (e := 57) (by kernel_rfl) (sz := 6) (by kernel_rfl) (by decide) h fun cs _ hf => Fm.oc hf
  obtain ⟨a', c', e⟩ := (hr []).lit
  cases e
  have hm2 : maxLen ≤ 9223372036854775807 := by decide
  exact FnO.law (GrantPaths_ok (by omega) (fun o h => (ho o h).1) (hr []).o) (Own.nil W)
end Go.Proofs.C
