/- A text of the proof of a statement about the given program: its part BSha6. No person has read it. -/
import Derived.Test.YtecnolmpdgfnfaaDoorBSha5
import Derived.Test.YtecnolmpdgfnfaaDoorJ24
-- seat b
namespace Go.Proofs.B
open Go Go.Gp Go.RowKit

theorem Clone_ok {w0 : World} {F : List HProp} {g : Nat} {K : Ws} {all : List UInt8} {s : Value} :
    FnO Tryd.prog w0 22 [.pointer (some ⟨g, 0, none⟩)] (row g 48 (stC K all s) :: own 5 1 s (stL all).length (bcells (stL all)) :: F)
      (fun v l' => ∃ g2 s2, v = .pointer (some ⟨g2, 0, none⟩) ∧ l' = row g2 48 (stC K all s2) :: own 5 1 s2 (stL all).length (bcells (stL all)) :: row g 48 (stC K all s) :: own 5 1 s (stL all).length (bcells (stL all)) :: F) := by
  refine FnO.rd (RdO.own (.tail .head)) fun hr1 => ?_
  obtain ⟨sa, sc, rfl⟩ := hr1.lit
  have h1 := stL_length all
  have h2 := bcells_len (stL all)
  unfold stC
  refine FnO.weak ?_
  refine FnO.intro (n := 16) Tryd.func22 rfl rfl rfl ?_
  refine J.seq ?_
  refine J.region ?_
  refine JL.pure rfl rfl (OpP.assign rfl) ?_
  refine JL.nil ?_
  refine J.seq ?_
  refine J.region ?_
  refine JL.pure rfl rfl (OpP.move rfl) ?_
  refine JL.pure rfl rfl (OpP.nilCheck rfl) ?_
  refine JL.read rfl rfl (OpR.loadN rfl (Cells.full .head) rfl) ?_
  refine JL.mem rfl rfl OpM.alloc ?_; rintro _ _ ⟨b3, rfl, rfl⟩
  refine JL.mem0 rfl (by apply OpM.storeN rfl rfl (by rfl) (oneC rfl (oneC rfl (oneC rfl (oneC rfl (oneC rfl (oneC rfl (oneC rfl (oneC rfl (oneC rfl (one1 rfl)))))))))); (case' hu => exact .head); (case' hs => exact (.here (.here (.here (.here (.here (.here (.here (.here (.here (.here .nil))))))))))); done) ?_; rintro _ _ ⟨rfl, rfl⟩
  refine JL.nil ?_
  refine J.seq ?_
  refine J.region ?_
  refine JL.mem rfl rfl (by apply OpM.buildSlice (by rfl) rfl (by rfl); (repeat (first | exact Fills.nil | (apply Fills.cons rfl rfl rfl; (case' hs => ((repeat (first | exact Spl.nil | apply Spl.here | apply Spl.there)); done)))))) ?_; rintro _ _ ⟨b7, rfl, rfl⟩
  refine JL.pure rfl rfl (OpP.move rfl) ?_
  refine JL.pure rfl rfl (OpP.nilCheck rfl) ?_
  refine JL.pure rfl rfl (OpP.fieldAddr rfl) ?_
  refine JL.pure rfl rfl (OpP.fieldAddr rfl) ?_
  refine JL.read rfl rfl (OpR.load1 rfl (Cell.row (.tail (.tail .head)) rfl)) ?_
  refine JL.ownRow (n := 0) (sz := 1) (by decide) rfl ?_
  refine JL.mem rfl rfl (OpM.appendH0 rfl rfl (.inl ⟨_, Sl.und inferInstance⟩) (by rfl) rfl rfl (RdO.src (RdO.own (.tail (.tail (.tail .head)))) (by first | assumption | (simp; done) | (simp; omega))) (by first | exact bcells_one _ | exact scells_one _ | exact icells_one _ | assumption) (by simp only [maxLen]; omega) (by omega)) ?_; rintro _ _ ⟨⟨a13, c13, rfl⟩, rfl⟩
  refine JL.pure rfl rfl (OpP.fieldAddr rfl) ?_
  refine JL.pure rfl rfl (OpP.fieldAddr rfl) ?_
  refine JL.mem0 rfl (by apply OpM.store1 rfl rfl rfl; (case' hu => exact (.tail .head)); (case' hs => exact (.there (.there (.there (.there (.there (.there (.there (.there (.here .nil)))))))))); done) ?_; rintro _ _ ⟨rfl, rfl⟩
  refine JL.nil ?_
  refine J.seq ?_
  refine J.region ?_
  refine JL.pure rfl rfl (OpP.assign rfl) ?_
  refine JL.nil ?_
  refine J.ret1 rfl rfl ?_
  exact ⟨_, ⟨b3, .slice a13 (stL all).length c13, rfl, rfl⟩, fun _ h => Own.f1 h⟩
end Go.Proofs.B
