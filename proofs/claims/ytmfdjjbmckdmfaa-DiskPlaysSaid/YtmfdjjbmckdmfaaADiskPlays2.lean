/- A text of the proof of a statement about the given program: its part ADiskPlays2. No person has read it. -/
import Derived.Test.YtmfdjjbmckdmfaaADiskPlays
-- seat a
namespace Go.Proofs.A
open Go Go.Gp Go.RowKit

theorem Fm.opA {w0 : World} {cs : List Value} (h : Fm Try.prog w0 58 cs) : ∃ o : OpA, o.Ok w0 ∧ cs = ocell o := by
  obtain ⟨hl, hf⟩ := h.struct Try.underlying58
  have h58 : Try.prog.cellsOf 58 = 5 := by kernel_rfl
  have h5 : Try.prog.cellsOf 5 = 1 := by kernel_rfl
  have h3 : Try.prog.cellsOf 3 = 1 := by kernel_rfl
  have h25 : Try.prog.cellsOf 25 = 1 := by kernel_rfl
  have h34 : Try.prog.cellsOf 34 = 1 := by kernel_rfl
  have h4 : Try.prog.cellsOf 4 = 1 := by kernel_rfl
  rw [h58] at hl
  have f0 := hf 0 _ rfl
  have f1 := hf 1 _ rfl
  have f2 := hf 2 _ rfl
  have f3 := hf 3 _ rfl
  have f4 := hf 4 _ rfl
  clear hf
  dsimp only at f0 f1 f2 f3 f4
  rw [h5] at f0
  rw [h3] at f1 f2
  rw [h25] at f3
  rw [h34] at f4
  obtain ⟨c0, cs, rfl⟩ : ∃ c l, cs = c :: l := by cases cs with | nil => simp at hl | cons c l => exact ⟨c, l, rfl⟩
  obtain ⟨c1, cs, rfl⟩ : ∃ c l, cs = c :: l := by cases cs with | nil => simp at hl | cons c l => exact ⟨c, l, rfl⟩
  obtain ⟨c2, cs, rfl⟩ : ∃ c l, cs = c :: l := by cases cs with | nil => simp at hl | cons c l => exact ⟨c, l, rfl⟩
  obtain ⟨c3, cs, rfl⟩ : ∃ c l, cs = c :: l := by cases cs with | nil => simp at hl | cons c l => exact ⟨c, l, rfl⟩
  obtain ⟨c4, cs, rfl⟩ : ∃ c l, cs = c :: l := by cases cs with | nil => simp at hl | cons c l => exact ⟨c, l, rfl⟩
  obtain rfl : cs = [] := by cases cs with | nil => rfl | cons c l => simp at hl
  change Fm Try.prog w0 5 [c0] at f0
  change Fm Try.prog w0 3 [c1] at f1
  change Fm Try.prog w0 3 [c2] at f2
  change Fm Try.prog w0 25 [c3] at f3
  change Fm Try.prog w0 34 [c4] at f4
  obtain ⟨k, e0, k1⟩ := f0.int Try.underlying5
  obtain ⟨I, e1, _⟩ := f1.int Try.underlying3
  obtain ⟨N, e2, n1⟩ := f2.int Try.underlying3
  obtain ⟨B, _, hB⟩ := f3.bytes Try.underlying25 Try.underlying5 h5
  obtain ⟨pk, _, hpk⟩ := f4.bools Try.underlying34 Try.underlying4 h4
  simp [Lit.wf, IntKind.min, IntKind.max, IntKind.signed, IntKind.bits] at k1 n1
  cases e0
  cases e1
  cases e2
  exact ⟨⟨k, I, N, c3, B, c4, pk⟩, ⟨k1.1, k1.2, n1.2, hB, hpk⟩, rfl⟩

theorem DiskPlays_law {W : World} {a0 : Int} {a : Option Addr} {n c : Nat} (w0 : (Lit.int .i8 a0).wf = true) (h : Fm Try.prog W 53 [.slice a n c]) :
    Calls Try.prog 7 #[.int .i8 a0, .slice a n c] W fun e w' => e = .returned (.bool true) ∧ Below W.heap.size W w' := by
  obtain ⟨l, hl, _, hr⟩ := Fm.rows (f := ocell) (Q := fun o => o.Ok W) Try.underlying53 (sz := 5) (by kernel_rfl) (by decide) h fun cs _ hf => Fm.opA hf
  simp [Lit.wf, IntKind.min, IntKind.max, IntKind.signed, IntKind.bits] at w0
  exact FnO.law (args := [.int .i8 a0, .slice a n c]) (DiskPlays_ok w0 (hr []) fun o ho => (hl o ho).1) (Own.nil W)
end Go.Proofs.A
