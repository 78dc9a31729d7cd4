/- A text of the proof of a statement about the given program: its part J11. No person has read it. -/
import Derived.Test.YtecnolmpdgfnfaaDoorJ10
import Derived.ChangeShapes
namespace Go.Gp
open Go Go.RowKit

/-- A contract, as a call that begins with nothing owned. -/
theorem FnO.law {P : Program} {f : FuncId} {args : List Value} {l : List HProp} {v : Value} {w : World} (h : FnO P w f args l (fun u _ => u = v)) (hl : Own w w l) :
    Calls P f args.toArray w fun e w' => e = .returned v ∧ Below w.heap.size w w' :=
  (h.calls w hl).mono fun _ _ ⟨_, _, he, hR, ho⟩ => ⟨by rw [he, hR], ho.below⟩

theorem u8_of_wf {n : Int} (h : (Lit.int .u8 n).wf = true) : ∃ c : UInt8, Value.int .u8 n = u8c c := by
  simp [Lit.wf, IntKind.min, IntKind.max, IntKind.signed, IntKind.bits] at h
  refine ⟨UInt8.ofNat n.toNat, ?_⟩
  have : (UInt8.ofNat n.toNat).toNat = n.toNat := by rw [UInt8.toNat_ofNat']; omega
  simp only [u8c, this]
  congr 1
  omega
end Go.Gp
