/- A text of the proof of a statement about the given program: its part ACache6. No person has read it. -/
import Derived.Test.YtmfdjjbmckdmfaaACache5
import Derived.Test.YtmfdjjbmckdmfaaJ17
-- seat a
namespace Go.Proofs.A
open Go Go.Gp Go.RowKit

theorem scells_get {xs : List Str} {i : Nat} {s : Str} (h : xs[i]? = some s) : (scells xs)[i]? = some (.string s) := by simp [scells, h]
theorem scells_length (xs : List Str) : (scells xs).length = xs.length := by simp [scells]

theorem SameTexts_ok {w0 : World} {F : List HProp} {u v : Value} {xs ys : List Str} (hx : RdO w0 F u xs.length (scells xs)) (hy : RdO w0 F v ys.length (scells ys)) (h1 : xs.length ≤ 1000000000) :
    FnO Try.prog w0 22 [u, v] F (fun r l' => r = .bool (decide (xs = ys)) ∧ l' = F) := by
  refine FnO.rd hx fun hx' => FnO.rd hy fun hy' => ?_
  obtain ⟨xa, xc, rfl⟩ := hx'.lit
  obtain ⟨ya, yc, rfl⟩ := hy'.lit
  refine FnO.intro (n := 26) Try.func22 rfl rfl rfl ?_
  refine J.seq ?_
  refine J.region ?_
  refine JL.pure rfl rfl (OpP.assign rfl) ?_
  refine JL.nil ?_
  refine J.seq ?_
  refine J.seq ?_
  refine J.region ?_
  refine JL.pure rfl rfl (OpP.move rfl) ?_
  refine JL.pure rfl rfl (OpP.len rfl rfl) ?_
  refine JL.pure rfl rfl (OpP.move rfl) ?_
  refine JL.pure rfl rfl (OpP.len rfl rfl) ?_
  refine JL.dec rfl rfl (OpP.neq rfl rfl) (fun h10 => ?_) (fun h10 => ?_)
  focus
    refine JL.nil ?_
    refine J.condT rfl ?_
    refine J.seq ?_
    refine J.region ?_
    refine JL.pure rfl rfl (OpP.assign rfl) ?_
    refine JL.nil ?_
    refine J.ret1 rfl rfl ?_
  rotate_left 1
  focus
    refine JL.nil ?_
    refine J.condF rfl ?_
    refine J.skip ?_
    refine J.seq ?_
    refine J.seq ?_
    refine J.region ?_
    refine JL.pure rfl rfl (OpP.assign rfl) ?_
    refine JL.nil ?_
    refine J.block ?_
  rotate_left 1
  · exact ⟨congrArg Value.bool (decide_eq_false fun h => by subst h; exact h10 rfl).symm, rfl⟩
  refine J.loopI (fun i : Nat => xs.length - i) (fun i => i ≤ xs.length ∧ ∀ j, j < i → xs[j]? = ys[j]?) (fun i => [(5, .int .i64 (i : Nat)), (0, .slice xa xs.length xc), (1, .slice ya ys.length yc)]) (fun _ => F) 0 ⟨Nat.zero_le _, fun _ h => by omega⟩ (by repeat (first | exact SubEnv.nil | refine SubEnv.cons (by first | rfl | exact congrArg (fun z => some (Value.int .i64 z)) (by omega) | (simp; done)) ?_)) (fun _ h => h) (fun i ⟨hi, hf⟩ back => ?_)
  by_cases hlt : i < xs.length
  · obtain ⟨xb, xo, xcap, hxv, hxc, cx⟩ := hx'.pos (by omega)
    obtain ⟨yb, yo, ycap, hyv, hyc, cy⟩ := hy'.pos (by omega)
    cases hxv; cases hyv
    obtain ⟨s, hs⟩ : ∃ s, xs[i]? = some s := ⟨_, List.getElem?_eq_getElem hlt⟩
    obtain ⟨t, ht⟩ : ∃ t, ys[i]? = some t := ⟨_, List.getElem?_eq_getElem (by omega)⟩
    have hs' := scells_get hs
    have ht' := scells_get ht
    refine J.seq ?_
    refine J.seq ?_
    refine J.region ?_
    refine JL.pure rfl rfl (OpP.move rfl) ?_
    refine JL.pure rfl rfl (OpP.move rfl) ?_
    refine JL.pure rfl rfl (OpP.len rfl rfl) ?_
    refine JL.decT rfl rfl (OpP.lss rfl rfl) (by omega) ?_
    refine JL.nil ?_
    refine J.condT rfl ?_
    refine J.skip ?_
    refine J.seq ?_
    refine J.block ?_
    refine J.seq ?_
    refine J.regionD [3, 7] (by kernel_rfl) ?_
    refine DL.pure (i := 0) (by kernel_rfl) (by kernel_rfl) rfl rfl rfl (OpP.move rfl) ?_
    refine DL.pure (i := 1) (by kernel_rfl) (by kernel_rfl) rfl rfl rfl (OpP.move rfl) ?_
    refine DL.pure (i := 2) (by kernel_rfl) (by kernel_rfl) rfl rfl rfl (OpP.indexAddr rfl rfl (by omega) (by omega)) ?_
    refine DL.read (i := 3) (by kernel_rfl) (by kernel_rfl) rfl rfl rfl (fun _ h => h) (OpR.load1 rfl (by apply Cells.cell cx (fun _ h => h); (case' hv => assumption); (case' ho => omega); done)) ?_
    refine DL.pure (i := 4) (by kernel_rfl) (by kernel_rfl) rfl rfl rfl (OpP.move rfl) ?_
    refine DL.pure (i := 5) (by kernel_rfl) (by kernel_rfl) rfl rfl rfl (OpP.move rfl) ?_
    refine DL.pure (i := 6) (by kernel_rfl) (by kernel_rfl) rfl rfl rfl (OpP.indexAddr rfl rfl (by omega) (by omega)) ?_
    refine DL.read (i := 7) (by kernel_rfl) (by kernel_rfl) rfl rfl rfl (fun _ h => h) (OpR.load1 rfl (by apply Cells.cell cy (fun _ h => h); (case' hv => assumption); (case' ho => omega); done)) ?_
    refine DL.dec (i := 8) (by kernel_rfl) (by kernel_rfl) rfl rfl rfl (OpP.neStr rfl rfl) (fun h25 => ?_) (fun h25 => ?_)
    focus
      refine DL.done (by kernel_rfl) ?_
      refine J.condT rfl ?_
      refine J.seq ?_
      refine J.region ?_
      refine JL.pure rfl rfl (OpP.assign rfl) ?_
      refine JL.nil ?_
      refine J.ret1 rfl rfl ?_
    rotate_left 1
    focus
      refine DL.done (by kernel_rfl) ?_
      refine J.condF rfl ?_
      refine J.skip ?_
      refine J.inBlock ?_
      refine J.region ?_
      refine JL.pure rfl rfl (OpP.move rfl) ?_
      refine JL.pure rfl rfl (OpP.addI rfl rfl (by omega) (by omega)) ?_
      refine JL.pure rfl rfl (OpP.assign rfl) ?_
      refine JL.nil ?_
    rotate_left 1
    · exact ⟨congrArg Value.bool (decide_eq_false fun h => by subst h; rw [hs] at ht; cases ht; exact h25 rfl).symm, rfl⟩
    · refine back (i + 1) ⟨by omega, fun j hj => ?_⟩ (by omega) (by repeat (first | exact SubEnv.nil | refine SubEnv.cons (by first | rfl | exact congrArg (fun z => some (Value.int .i64 z)) (by omega) | (simp; done)) ?_)) (fun _ h => h)
      by_cases hji : j < i
      · exact hf j hji
      · obtain rfl : j = i := by omega
        rw [hs, ht, Classical.not_not.1 h25]
  · refine J.seq ?_
    refine J.seq ?_
    refine J.region ?_
    refine JL.pure rfl rfl (OpP.move rfl) ?_
    refine JL.pure rfl rfl (OpP.move rfl) ?_
    refine JL.pure rfl rfl (OpP.len rfl rfl) ?_
    refine JL.decF rfl rfl (OpP.lss rfl rfl) (by omega) ?_
    refine JL.nil ?_
    refine J.condF rfl ?_
    refine J.exit rfl ?_
    refine J.seq ?_
    refine J.region ?_
    refine JL.pure rfl rfl (OpP.assign rfl) ?_
    refine JL.nil ?_
    refine J.ret1 rfl rfl ?_
    refine ⟨congrArg Value.bool (decide_eq_true (List.ext_getElem? fun j => ?_)).symm, rfl⟩
    by_cases hji : j < i
    · exact hf j hji
    · rw [List.getElem?_eq_none (by omega), List.getElem?_eq_none (by omega)]
end Go.Proofs.A
