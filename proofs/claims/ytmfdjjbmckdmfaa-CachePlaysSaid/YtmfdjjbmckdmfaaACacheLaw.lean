/- A text of the proof of a statement about the given program: its part ACacheLaw. No person has read it. -/
import Derived.Test.YtmfdjjbmckdmfaaACacheFull
import Derived.Test.YtmfdjjbmckdmfaaJ17
-- seat a
namespace Go.Proofs.A
open Go Go.Gp Go.RowKit

theorem Fm.dec {w0 : World} {cs : List Value} (h : Fm Try.prog w0 43 cs) : ∃ d : Dec, Rd w0 [] d.dv d.dl.length (scells d.dl) ∧ Rd w0 [] d.av d.al.length (scells d.al) ∧ cs = dcell d := by
  have h := h.fields (l := [(3, 1), (38, 1), (38, 1)]) (by kernel_rfl)
  obtain ⟨c0, cs, rfl, f0, h⟩ := h.one
  obtain ⟨c1, cs, rfl, f1, h⟩ := h.one
  obtain ⟨c2, cs, rfl, f2, h⟩ := h.one
  cases h
  obtain ⟨n, e0, _⟩ := f0.int Try.underlying3
  obtain ⟨dl, _, h1⟩ := f1.strs Try.underlying38 Try.underlying9 (by kernel_rfl)
  obtain ⟨al, _, h2⟩ := f2.strs Try.underlying38 Try.underlying9 (by kernel_rfl)
  cases e0
  exact ⟨⟨n, c1, c2, dl, al⟩, h1, h2, rfl⟩

theorem Fm.opC {w0 : World} {cs : List Value} (h : Fm Try.prog w0 71 cs) : ∃ o : OpC, o.Ok w0 ∧ cs = ocl o := by
  have h := h.fields (l := [(5, 1), (9, 1), (9, 1), (9, 1), (43, 3), (3, 1)]) (by kernel_rfl)
  obtain ⟨c0, cs, rfl, f0, h⟩ := h.one
  obtain ⟨c1, cs, rfl, f1, h⟩ := h.one
  obtain ⟨c2, cs, rfl, f2, h⟩ := h.one
  obtain ⟨c3, cs, rfl, f3, h⟩ := h.one
  obtain ⟨d, cs, rfl, _, f4, h⟩ := h.many
  obtain ⟨c5, cs, rfl, f5, h⟩ := h.one
  cases h
  obtain ⟨k, e0, k1⟩ := f0.int Try.underlying5
  obtain ⟨s1, e1, _⟩ := f1.str Try.underlying9
  obtain ⟨s2, e2, _⟩ := f2.str Try.underlying9
  obtain ⟨s3, e3, _⟩ := f3.str Try.underlying9
  obtain ⟨p, e5, p1⟩ := f5.int Try.underlying3
  obtain ⟨d, d1, d2, rfl⟩ := Fm.dec f4
  simp [Lit.wf, IntKind.min, IntKind.max, IntKind.signed, IntKind.bits] at k1 p1
  cases e0; cases e1; cases e2; cases e3; cases e5
  exact ⟨⟨k, s1, s2, s3, d, p⟩, ⟨k1.1, k1.2, p1.1, p1.2, d1, d2⟩, rfl⟩

theorem CacheFull_law {W : World} {a0 : Int} {a : Option Addr} {n c : Nat} (_ : (Lit.int .i64 a0).wf = true) (h : Fm Try.prog W 68 [.slice a n c]) :
    Calls Try.prog 10 #[.int .i64 a0, .slice a n c] W fun e w' => e = .returned (.bool true) ∧ Below W.heap.size W w' := by
  obtain ⟨l, hl, _, hr⟩ := Fm.rows (f := ocl) (Q := fun o => o.Ok W) Try.underlying68 (sz := 8) (by kernel_rfl) (by decide) h fun cs _ hf => Fm.opC hf
  exact FnO.law (args := [.int .i64 a0, .slice a n c]) (CacheFull_ok (hr []) fun o ho => (hl o ho).1) (Own.nil W)
end Go.Proofs.A
