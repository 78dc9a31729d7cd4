/- A text of the proof of a statement about the given program: its part ACPlaysLaw. No person has read it. -/
import Derived.Test.YtmfdjjbmckdmfaaACachePlays
import Derived.Test.YtmfdjjbmckdmfaaACacheLaw
import Derived.Test.YtmfdjjbmckdmfaaJ20
-- seat a
namespace Go.Proofs.A
open Go Go.Gp Go.RowKit

theorem CachePlays_law {W : World} {a0 : Int} {a : Option Addr} {n c : Nat} (_ : (Lit.int .i64 a0).wf = true) (h : Fm Try.prog W 68 [.slice a n c]) :
    Calls Try.prog 11 #[.int .i64 a0, .slice a n c] W fun e w' => e = .returned (.bool true) ∧ Below W.heap.size W w' := by
  obtain ⟨l, hl, _, hr⟩ := Fm.rows (f := ocl) (Q := fun o => o.Ok W) Try.underlying68 (sz := 8) (by kernel_rfl) (by decide) h fun cs _ hf => Fm.opC hf
  exact FnO.law (args := [.int .i64 a0, .slice a n c]) (CachePlays_ok (hr []) fun o ho => (hl o ho).1) (Own.nil W)
end Go.Proofs.A
