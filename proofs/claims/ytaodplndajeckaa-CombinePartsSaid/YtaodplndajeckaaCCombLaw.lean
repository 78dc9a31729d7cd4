/- A text of the proof of a statement about the given program: its part CCombLaw. No person has read it. -/
import Derived.Test.YtaodplndajeckaaCComb8
import Derived.Test.YtaodplndajeckaaJ20
-- seat c
namespace Go.Proofs.C
open Go Go.Gp Go.RowKit
theorem CombineTurns_law {W : World} {k : Int} {a : Option Addr} {n c : Nat} (h0 : (Lit.int .u8 k).wf = true) (h : Fm Try.prog W 31 [.slice a n c]) :
    Calls Try.prog 4 #[.int .u8 k, .slice a n c] W fun e w' => e = .returned (.bool true) ∧ Below W.heap.size W w' := by
  obtain ⟨l, _, hr⟩ := h.bytes Try.underlying31 Try.underlying5 (by kernel_rfl)
  simp [Lit.wf, IntKind.min, IntKind.max, IntKind.signed, IntKind.bits] at h0
  exact FnO.law (args := [.int .u8 k, .slice a n c]) (CombineTurns_ok h0.1 h0.2 hr) (Own.nil W)
theorem CombineOrder_law {W : World} {k m : Int} {a : Option Addr} {n c : Nat} (h0 : (Lit.int .u8 k).wf = true) (h : Fm Try.prog W 31 [.slice a n c]) (h1 : (Lit.int .u8 m).wf = true) :
    Calls Try.prog 5 #[.int .u8 k, .slice a n c, .int .u8 m] W fun e w' => e = .returned (.bool true) ∧ Below W.heap.size W w' := by
  obtain ⟨l, _, hr⟩ := h.bytes Try.underlying31 Try.underlying5 (by kernel_rfl)
  simp [Lit.wf, IntKind.min, IntKind.max, IntKind.signed, IntKind.bits] at h0 h1
  exact FnO.law (args := [.int .u8 k, .slice a n c, .int .u8 m]) (CombineOrder_ok h0.1 h0.2 h1.1 h1.2 hr) (Own.nil W)
theorem CombineNone_law {W : World} {k m : Int} {a : Option Addr} {n c : Nat} (h0 : (Lit.int .u8 k).wf = true) (h : Fm Try.prog W 31 [.slice a n c]) (h1 : (Lit.int .u8 m).wf = true) :
    Calls Try.prog 6 #[.int .u8 k, .slice a n c, .int .u8 m] W fun e w' => e = .returned (.bool true) ∧ Below W.heap.size W w' := by
  obtain ⟨l, _, hr⟩ := h.bytes Try.underlying31 Try.underlying5 (by kernel_rfl)
  simp [Lit.wf, IntKind.min, IntKind.max, IntKind.signed, IntKind.bits] at h0 h1
  exact FnO.law (args := [.int .u8 k, .slice a n c, .int .u8 m]) (CombineNone_ok h0.1 h0.2 h1.1 h1.2 hr) (Own.nil W)
theorem CombineParts_law {W : World} {k m : Int} {a : Option Addr} {n c : Nat} (h0 : (Lit.int .u8 k).wf = true) (h : Fm Try.prog W 31 [.slice a n c]) (h1 : (Lit.int .u8 m).wf = true) :
    Calls Try.prog 7 #[.int .u8 k, .slice a n c, .int .u8 m] W fun e w' => e = .returned (.bool true) ∧ Below W.heap.size W w' := by
  obtain ⟨l, _, hr⟩ := h.bytes Try.underlying31 Try.underlying5 (by kernel_rfl)
  simp [Lit.wf, IntKind.min, IntKind.max, IntKind.signed, IntKind.bits] at h0 h1
  exact FnO.law (args := [.int .u8 k, .slice a n c, .int .u8 m]) (CombineParts_ok h0.1 h0.2 h1.1 h1.2 hr) (Own.nil W)
end Go.Proofs.C
