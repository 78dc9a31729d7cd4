/- A text of the proof of a statement about the given program: its part EA5. No person has read it. -/
import Derived.Test.YthncallhccekoaaEA4
import Derived.Test.YthncallhccekoaaEJ2
-- seat e
namespace Go.Proofs.E
open Go Go.Gp Go.RowKit

abbrev zRw : Rw := ⟨[], [], [], zVa⟩
abbrev zCm : Cm := ⟨0, [], zRw, [], [], 0, 0, [], none, 0⟩
/-- A command with what its kind has alone. -/
def onlyC (c : Cm) : Cm :=
  if c.kind = 1 then ⟨c.kind, c.text, zRw, [], [], 0, 0, [], none, 0⟩ else
  if c.kind = 2 then ⟨c.kind, [], c.row, [], [], 0, 0, [], none, 0⟩ else
  if c.kind = 3 then ⟨c.kind, [], ⟨c.row.who, c.row.name, c.row.attr, zVa⟩, [], [], 0, 0, [], none, 0⟩ else
  if c.kind = 8 then ⟨c.kind, [], zRw, c.a, c.b, c.n, c.t, [], none, 0⟩ else
  if c.kind = 9 then ⟨c.kind, [], zRw, c.a, [], c.n, 0, [], none, 0⟩ else
  if c.kind = 10 then ⟨c.kind, [], zRw, [], [], 0, c.t, [], none, 0⟩ else
  if c.kind = 11 then ⟨c.kind, [], zRw, c.a, c.b, 0, 0, c.hs, c.ha, c.hc⟩ else
  ⟨c.kind, [], zRw, c.a, c.b, 0, 0, [], none, 0⟩
theorem only_ok {w0 : World} {F : List HProp} {c : Cm} :
    FnO Try.prog w0 96 [.agg c.cells.toArray] F (fun r l' => ((1 ≤ c.kind ∧ c.kind ≤ 11) ∧ r = .tuple #[.agg (onlyC c).cells.toArray, .bool true] ∧ l' = F) ∨ (¬ (1 ≤ c.kind ∧ c.kind ≤ 11) ∧ r = .tuple #[.agg zCm.cells.toArray, .bool false] ∧ l' = F)) := by
  refine FnO.weak ?_
  refine FnO.intro (n := 84) Try.func96 rfl rfl rfl ?_
  by_cases h1 : c.kind = 1
  · have ho : onlyC c = ⟨c.kind, c.text, zRw, [], [], 0, 0, [], none, 0⟩ := by simp [onlyC, h1]
    refine J.seq ?_
    refine J.region ?_
    refine JL.mem rfl rfl (OpM.box rfl rfl) ?_; rintro _ _ ⟨b1, rfl, rfl⟩
    refine JL.mem rfl rfl OpM.alloc ?_; rintro _ _ ⟨b2, rfl, rfl⟩
    refine JL.pure rfl rfl (OpP.assign rfl) ?_
    refine JL.nil ?_
    refine J.seq ?_
    refine J.region ?_
    refine JL.pure rfl rfl (OpP.fieldAddr rfl) ?_
    refine JL.read rfl rfl (OpR.load1 rfl (Cell.row (.tail .head) rfl)) ?_
    refine JL.pure rfl rfl (OpP.build rfl (by (repeat (first | exact Fills.nil | (apply Fills.cons rfl rfl rfl; (case' hs => ((repeat (first | exact Spl.nil | apply Spl.here | apply Spl.there)); done))))))) ?_
    refine JL.mem rfl rfl OpM.alloc ?_; rintro _ _ ⟨b4, rfl, rfl⟩
    refine JL.mem0 rfl (by apply OpM.storeN rfl rfl (by rfl) (oneC rfl (oneC rfl (oneC rfl (oneC rfl (oneC rfl (oneC rfl (oneC rfl (oneC rfl (oneC rfl (oneC rfl (oneC rfl (oneC rfl (oneC rfl (one1 rfl)))))))))))))); (case' hu => exact .head); (case' hs => exact (.here (.here (.here (.here (.here (.here (.here (.here (.here (.here (.here (.here (.here (.here .nil))))))))))))))); done) ?_; rintro _ _ ⟨rfl, rfl⟩
    refine JL.nil ?_
    refine J.seq ?_
    refine J.seq ?_
    refine J.region ?_
    refine JL.pure rfl rfl (OpP.fieldAddr rfl) ?_
    refine JL.read rfl rfl (OpR.load1 rfl (Cell.row (.tail (.tail .head)) rfl)) ?_
    refine JL.nil ?_
    refine J.block ?_
    refine J.seq ?_
    refine J.region ?_
    refine JL.decT rfl rfl (OpP.eql rfl rfl) (by omega) ?_
    refine JL.pure rfl rfl (OpP.assign rfl) ?_
    refine JL.nil ?_
    refine J.condT rfl ?_
    refine J.region ?_
    refine JL.pure rfl rfl (OpP.fieldAddr rfl) ?_
    refine JL.read rfl rfl (OpR.load1 rfl (Cell.row (.tail (.tail .head)) rfl)) ?_
    refine JL.pure rfl rfl (OpP.fieldAddr rfl) ?_
    refine JL.mem0 rfl (by apply OpM.store1 rfl rfl rfl; (case' hu => exact .head); (case' hs => exact (.there (.here .nil))); done) ?_; rintro _ _ ⟨rfl, rfl⟩
    refine JL.nil ?_
    refine J.inBlock ?_
    refine J.seq ?_
    refine J.region ?_
    refine JL.read rfl rfl (OpR.loadN rfl (Cells.full .head) rfl) ?_
    refine JL.mem0 rfl (by apply OpM.storeN rfl rfl (by rfl) (oneC rfl (oneC rfl (oneC rfl (oneC rfl (oneC rfl (oneC rfl (oneC rfl (oneC rfl (oneC rfl (oneC rfl (oneC rfl (oneC rfl (oneC rfl (one1 rfl)))))))))))))); (case' hu => exact (.tail .head)); (case' hs => exact (.here (.here (.here (.here (.here (.here (.here (.here (.here (.here (.here (.here (.here (.here .nil))))))))))))))); done) ?_; rintro _ _ ⟨rfl, rfl⟩
    refine JL.pure rfl rfl (OpP.assign rfl) ?_
    refine JL.nil ?_
    refine J.retC2 rfl rfl (by apply Cells.full; (with_reducible repeat (first | exact .head | apply Has.tail))) (by first | (rw [List.length_append, hdC_len (by first | assumption | exact Go.Proofs.B.shaB_length _ _ | solve_by_elim)]; rfl) | exact hdC_len (by first | assumption | exact Go.Proofs.B.shaB_length _ _ | solve_by_elim) | (rw [bcells_length]; first | assumption | exact Go.Proofs.B.shaB_length _ _ | solve_by_elim) | exact fc_length _ _ | exact fB_length _ _ | rfl) rfl ?_
    rw [ho]
    exact ⟨_, .inl ⟨by omega, rfl, rfl⟩, fun _ h => h.tail.tail.tail⟩
  by_cases h2 : c.kind = 2
  · have ho : onlyC c = ⟨c.kind, [], c.row, [], [], 0, 0, [], none, 0⟩ := by simp [onlyC, h2]
    refine J.seq ?_
    refine J.region ?_
    refine JL.mem rfl rfl (OpM.box rfl rfl) ?_; rintro _ _ ⟨b1, rfl, rfl⟩
    refine JL.mem rfl rfl OpM.alloc ?_; rintro _ _ ⟨b2, rfl, rfl⟩
    refine JL.pure rfl rfl (OpP.assign rfl) ?_
    refine JL.nil ?_
    refine J.seq ?_
    refine J.region ?_
    refine JL.pure rfl rfl (OpP.fieldAddr rfl) ?_
    refine JL.read rfl rfl (OpR.load1 rfl (Cell.row (.tail .head) rfl)) ?_
    refine JL.pure rfl rfl (OpP.build rfl (by (repeat (first | exact Fills.nil | (apply Fills.cons rfl rfl rfl; (case' hs => ((repeat (first | exact Spl.nil | apply Spl.here | apply Spl.there)); done))))))) ?_
    refine JL.mem rfl rfl OpM.alloc ?_; rintro _ _ ⟨b4, rfl, rfl⟩
    refine JL.mem0 rfl (by apply OpM.storeN rfl rfl (by rfl) (oneC rfl (oneC rfl (oneC rfl (oneC rfl (oneC rfl (oneC rfl (oneC rfl (oneC rfl (oneC rfl (oneC rfl (oneC rfl (oneC rfl (oneC rfl (one1 rfl)))))))))))))); (case' hu => exact .head); (case' hs => exact (.here (.here (.here (.here (.here (.here (.here (.here (.here (.here (.here (.here (.here (.here .nil))))))))))))))); done) ?_; rintro _ _ ⟨rfl, rfl⟩
    refine JL.nil ?_
    refine J.seq ?_
    refine J.seq ?_
    refine J.region ?_
    refine JL.pure rfl rfl (OpP.fieldAddr rfl) ?_
    refine JL.read rfl rfl (OpR.load1 rfl (Cell.row (.tail (.tail .head)) rfl)) ?_
    refine JL.nil ?_
    refine J.block ?_
    refine J.seq ?_
    refine J.region ?_
    refine JL.decF rfl rfl (OpP.eql rfl rfl) (by omega) ?_
    refine JL.pure rfl rfl (OpP.assign rfl) ?_
    refine JL.nil ?_
    refine J.condF rfl ?_
    refine J.seq ?_
    refine J.region ?_
    refine JL.decT rfl rfl (OpP.eql rfl rfl) (by omega) ?_
    refine JL.pure rfl rfl (OpP.assign rfl) ?_
    refine JL.nil ?_
    refine J.condT rfl ?_
    refine J.region ?_
    refine JL.pure rfl rfl (OpP.fieldAddr rfl) ?_
    refine JL.read rfl rfl (OpR.loadN rfl (Cells.sub 7 (.tail (.tail .head)) rfl) rfl) ?_
    refine JL.pure rfl rfl (OpP.fieldAddr rfl) ?_
    refine JL.mem0 rfl (by apply OpM.storeN rfl rfl (by rfl) (oneC rfl (oneC rfl (oneC rfl (oneC rfl (oneC rfl (oneC rfl (one1 rfl))))))); (case' hu => exact .head); (case' hs => exact (.there (.there (.here (.here (.here (.here (.here (.here (.here .nil)))))))))); done) ?_; rintro _ _ ⟨rfl, rfl⟩
    refine JL.nil ?_
    refine J.inBlock ?_
    refine J.seq ?_
    refine J.region ?_
    refine JL.read rfl rfl (OpR.loadN rfl (Cells.full .head) rfl) ?_
    refine JL.mem0 rfl (by apply OpM.storeN rfl rfl (by rfl) (oneC rfl (oneC rfl (oneC rfl (oneC rfl (oneC rfl (oneC rfl (oneC rfl (oneC rfl (oneC rfl (oneC rfl (oneC rfl (oneC rfl (oneC rfl (one1 rfl)))))))))))))); (case' hu => exact (.tail .head)); (case' hs => exact (.here (.here (.here (.here (.here (.here (.here (.here (.here (.here (.here (.here (.here (.here .nil))))))))))))))); done) ?_; rintro _ _ ⟨rfl, rfl⟩
    refine JL.pure rfl rfl (OpP.assign rfl) ?_
    refine JL.nil ?_
    refine J.retC2 rfl rfl (by apply Cells.full; (with_reducible repeat (first | exact .head | apply Has.tail))) (by first | (rw [List.length_append, hdC_len (by first | assumption | exact Go.Proofs.B.shaB_length _ _ | solve_by_elim)]; rfl) | exact hdC_len (by first | assumption | exact Go.Proofs.B.shaB_length _ _ | solve_by_elim) | (rw [bcells_length]; first | assumption | exact Go.Proofs.B.shaB_length _ _ | solve_by_elim) | exact fc_length _ _ | exact fB_length _ _ | rfl) rfl ?_
    rw [ho]
    exact ⟨_, .inl ⟨by omega, rfl, rfl⟩, fun _ h => h.tail.tail.tail⟩
  by_cases h3 : c.kind = 3
  · have ho : onlyC c = ⟨c.kind, [], ⟨c.row.who, c.row.name, c.row.attr, zVa⟩, [], [], 0, 0, [], none, 0⟩ := by simp [onlyC, h3]
    refine J.seq ?_
    refine J.region ?_
    refine JL.mem rfl rfl (OpM.box rfl rfl) ?_; rintro _ _ ⟨b1, rfl, rfl⟩
    refine JL.mem rfl rfl OpM.alloc ?_; rintro _ _ ⟨b2, rfl, rfl⟩
    refine JL.pure rfl rfl (OpP.assign rfl) ?_
    refine JL.nil ?_
    refine J.seq ?_
    refine J.region ?_
    refine JL.pure rfl rfl (OpP.fieldAddr rfl) ?_
    refine JL.read rfl rfl (OpR.load1 rfl (Cell.row (.tail .head) rfl)) ?_
    refine JL.pure rfl rfl (OpP.build rfl (by (repeat (first | exact Fills.nil | (apply Fills.cons rfl rfl rfl; (case' hs => ((repeat (first | exact Spl.nil | apply Spl.here | apply Spl.there)); done))))))) ?_
    refine JL.mem rfl rfl OpM.alloc ?_; rintro _ _ ⟨b4, rfl, rfl⟩
    refine JL.mem0 rfl (by apply OpM.storeN rfl rfl (by rfl) (oneC rfl (oneC rfl (oneC rfl (oneC rfl (oneC rfl (oneC rfl (oneC rfl (oneC rfl (oneC rfl (oneC rfl (oneC rfl (oneC rfl (oneC rfl (one1 rfl)))))))))))))); (case' hu => exact .head); (case' hs => exact (.here (.here (.here (.here (.here (.here (.here (.here (.here (.here (.here (.here (.here (.here .nil))))))))))))))); done) ?_; rintro _ _ ⟨rfl, rfl⟩
    refine JL.nil ?_
    refine J.seq ?_
    refine J.seq ?_
    refine J.region ?_
    refine JL.pure rfl rfl (OpP.fieldAddr rfl) ?_
    refine JL.read rfl rfl (OpR.load1 rfl (Cell.row (.tail (.tail .head)) rfl)) ?_
    refine JL.nil ?_
    refine J.block ?_
    refine J.seq ?_
    refine J.region ?_
    refine JL.decF rfl rfl (OpP.eql rfl rfl) (by omega) ?_
    refine JL.pure rfl rfl (OpP.assign rfl) ?_
    refine JL.nil ?_
    refine J.condF rfl ?_
    refine J.seq ?_
    refine J.region ?_
    refine JL.decF rfl rfl (OpP.eql rfl rfl) (by omega) ?_
    refine JL.pure rfl rfl (OpP.assign rfl) ?_
    refine JL.nil ?_
    refine J.condF rfl ?_
    refine J.seq ?_
    refine J.region ?_
    refine JL.decT rfl rfl (OpP.eql rfl rfl) (by omega) ?_
    refine JL.pure rfl rfl (OpP.assign rfl) ?_
    refine JL.nil ?_
    refine J.condT rfl ?_
    refine J.region ?_
    refine JL.pure rfl rfl (OpP.fieldAddr rfl) ?_
    refine JL.pure rfl rfl (OpP.fieldAddr rfl) ?_
    refine JL.read rfl rfl (OpR.load1 rfl (Cell.row (.tail (.tail .head)) rfl)) ?_
    refine JL.pure rfl rfl (OpP.fieldAddr rfl) ?_
    refine JL.pure rfl rfl (OpP.fieldAddr rfl) ?_
    refine JL.read rfl rfl (OpR.load1 rfl (Cell.row (.tail (.tail .head)) rfl)) ?_
    refine JL.pure rfl rfl (OpP.fieldAddr rfl) ?_
    refine JL.pure rfl rfl (OpP.fieldAddr rfl) ?_
    refine JL.read rfl rfl (OpR.load1 rfl (Cell.row (.tail (.tail .head)) rfl)) ?_
    refine JL.pure rfl rfl (OpP.build rfl (by (repeat (first | exact Fills.nil | (apply Fills.cons rfl rfl rfl; (case' hs => ((repeat (first | exact Spl.nil | apply Spl.here | apply Spl.there)); done))))))) ?_
    refine JL.pure rfl rfl (OpP.fieldAddr rfl) ?_
    refine JL.mem0 rfl (by apply OpM.storeN rfl rfl (by rfl) (oneC rfl (oneC rfl (oneC rfl (oneC rfl (oneC rfl (oneC rfl (one1 rfl))))))); (case' hu => exact .head); (case' hs => exact (.there (.there (.here (.here (.here (.here (.here (.here (.here .nil)))))))))); done) ?_; rintro _ _ ⟨rfl, rfl⟩
    refine JL.nil ?_
    refine J.inBlock ?_
    refine J.seq ?_
    refine J.region ?_
    refine JL.read rfl rfl (OpR.loadN rfl (Cells.full .head) rfl) ?_
    refine JL.mem0 rfl (by apply OpM.storeN rfl rfl (by rfl) (oneC rfl (oneC rfl (oneC rfl (oneC rfl (oneC rfl (oneC rfl (oneC rfl (oneC rfl (oneC rfl (oneC rfl (oneC rfl (oneC rfl (oneC rfl (one1 rfl)))))))))))))); (case' hu => exact (.tail .head)); (case' hs => exact (.here (.here (.here (.here (.here (.here (.here (.here (.here (.here (.here (.here (.here (.here .nil))))))))))))))); done) ?_; rintro _ _ ⟨rfl, rfl⟩
    refine JL.pure rfl rfl (OpP.assign rfl) ?_
    refine JL.nil ?_
    refine J.retC2 rfl rfl (by apply Cells.full; (with_reducible repeat (first | exact .head | apply Has.tail))) (by first | (rw [List.length_append, hdC_len (by first | assumption | exact Go.Proofs.B.shaB_length _ _ | solve_by_elim)]; rfl) | exact hdC_len (by first | assumption | exact Go.Proofs.B.shaB_length _ _ | solve_by_elim) | (rw [bcells_length]; first | assumption | exact Go.Proofs.B.shaB_length _ _ | solve_by_elim) | exact fc_length _ _ | exact fB_length _ _ | rfl) rfl ?_
    rw [ho]
    exact ⟨_, .inl ⟨by omega, rfl, rfl⟩, fun _ h => h.tail.tail.tail⟩
  by_cases h4 : c.kind = 4
  · have ho : onlyC c = ⟨c.kind, [], zRw, c.a, c.b, 0, 0, [], none, 0⟩ := by simp [onlyC, h4]
    refine J.seq ?_
    refine J.region ?_
    refine JL.mem rfl rfl (OpM.box rfl rfl) ?_; rintro _ _ ⟨b1, rfl, rfl⟩
    refine JL.mem rfl rfl OpM.alloc ?_; rintro _ _ ⟨b2, rfl, rfl⟩
    refine JL.pure rfl rfl (OpP.assign rfl) ?_
    refine JL.nil ?_
    refine J.seq ?_
    refine J.region ?_
    refine JL.pure rfl rfl (OpP.fieldAddr rfl) ?_
    refine JL.read rfl rfl (OpR.load1 rfl (Cell.row (.tail .head) rfl)) ?_
    refine JL.pure rfl rfl (OpP.build rfl (by (repeat (first | exact Fills.nil | (apply Fills.cons rfl rfl rfl; (case' hs => ((repeat (first | exact Spl.nil | apply Spl.here | apply Spl.there)); done))))))) ?_
    refine JL.mem rfl rfl OpM.alloc ?_; rintro _ _ ⟨b4, rfl, rfl⟩
    refine JL.mem0 rfl (by apply OpM.storeN rfl rfl (by rfl) (oneC rfl (oneC rfl (oneC rfl (oneC rfl (oneC rfl (oneC rfl (oneC rfl (oneC rfl (oneC rfl (oneC rfl (oneC rfl (oneC rfl (oneC rfl (one1 rfl)))))))))))))); (case' hu => exact .head); (case' hs => exact (.here (.here (.here (.here (.here (.here (.here (.here (.here (.here (.here (.here (.here (.here .nil))))))))))))))); done) ?_; rintro _ _ ⟨rfl, rfl⟩
    refine JL.nil ?_
    refine J.seq ?_
    refine J.seq ?_
    refine J.region ?_
    refine JL.pure rfl rfl (OpP.fieldAddr rfl) ?_
    refine JL.read rfl rfl (OpR.load1 rfl (Cell.row (.tail (.tail .head)) rfl)) ?_
    refine JL.nil ?_
    refine J.block ?_
    refine J.seq ?_
    refine J.region ?_
    refine JL.decF rfl rfl (OpP.eql rfl rfl) (by omega) ?_
    refine JL.pure rfl rfl (OpP.assign rfl) ?_
    refine JL.nil ?_
    refine J.condF rfl ?_
    refine J.seq ?_
    refine J.region ?_
    refine JL.decF rfl rfl (OpP.eql rfl rfl) (by omega) ?_
    refine JL.pure rfl rfl (OpP.assign rfl) ?_
    refine JL.nil ?_
    refine J.condF rfl ?_
    refine J.seq ?_
    refine J.region ?_
    refine JL.decF rfl rfl (OpP.eql rfl rfl) (by omega) ?_
    refine JL.pure rfl rfl (OpP.assign rfl) ?_
    refine JL.nil ?_
    refine J.condF rfl ?_
    refine J.seq ?_
    refine J.seq ?_
    refine J.region ?_
    refine JL.decT rfl rfl (OpP.eql rfl rfl) (by omega) ?_
    refine JL.pure rfl rfl (OpP.assign rfl) ?_
    refine JL.nil ?_
    refine J.condT rfl ?_
    refine J.skip ?_
    refine J.condT rfl ?_
    refine J.regionDC (cl := row b1 66 c.cells :: F) [1, 3] (by kernel_rfl) ?_
    refine DL.pure (i := 0) (by kernel_rfl) (by kernel_rfl) rfl rfl rfl (OpP.fieldAddr rfl) ?_
    refine DL.read (i := 1) (by kernel_rfl) (by kernel_rfl) rfl rfl rfl (fun _ h => Own.pick (pre := [_, _, _]) [2] rfl h) (OpR.load1 rfl (Cell.row .head rfl)) ?_
    refine DL.pure (i := 2) (by kernel_rfl) (by kernel_rfl) rfl rfl rfl (OpP.fieldAddr rfl) ?_
    refine DL.read (i := 3) (by kernel_rfl) (by kernel_rfl) rfl rfl rfl (fun _ h => Own.pick (pre := [_, _, _]) [2] rfl h) (OpR.load1 rfl (Cell.row .head rfl)) ?_
    refine DL.pure (i := 4) (by kernel_rfl) (by kernel_rfl) rfl rfl rfl (OpP.fieldAddr rfl) ?_
    refine DL.only (i := 5) (by kernel_rfl) ?_
    refine DL1.stepK0 rfl rfl (OpM.w (by apply OpM.store1 rfl rfl rfl; (case' hu => exact .head); (case' hs => exact (.there (.there (.there (.there (.there (.there (.there (.there (.there (.here .nil))))))))))); done)) (by rintro _ _ ⟨rfl, rfl⟩ _ h; exact Own.pick (pre := [_, _, _]) [2] rfl h) ?_; rintro _ _ ⟨rfl, rfl⟩
    refine DL.pure (i := 6) (by kernel_rfl) (by kernel_rfl) rfl rfl rfl (OpP.fieldAddr rfl) ?_
    refine DL.only (i := 7) (by kernel_rfl) ?_
    refine DL1.stepF0 rfl rfl (by kernel_rfl) (OpM.w (by apply OpM.store1 rfl rfl rfl; (case' hu => exact .head); (case' hs => exact (.there (.there (.there (.there (.there (.there (.there (.there (.there (.there (.here .nil)))))))))))); done)) ?_; rintro _ _ ⟨rfl, rfl⟩
    refine DL.done (by kernel_rfl) ?_
    refine J.inBlock ?_
    refine J.seq ?_
    refine J.region ?_
    refine JL.read rfl rfl (OpR.loadN rfl (Cells.full .head) rfl) ?_
    refine JL.mem0 rfl (by apply OpM.storeN rfl rfl (by rfl) (oneC rfl (oneC rfl (oneC rfl (oneC rfl (oneC rfl (oneC rfl (oneC rfl (oneC rfl (oneC rfl (oneC rfl (oneC rfl (oneC rfl (oneC rfl (one1 rfl)))))))))))))); (case' hu => exact (.tail .head)); (case' hs => exact (.here (.here (.here (.here (.here (.here (.here (.here (.here (.here (.here (.here (.here (.here .nil))))))))))))))); done) ?_; rintro _ _ ⟨rfl, rfl⟩
    refine JL.pure rfl rfl (OpP.assign rfl) ?_
    refine JL.nil ?_
    refine J.retC2 rfl rfl (by apply Cells.full; (with_reducible repeat (first | exact .head | apply Has.tail))) (by first | (rw [List.length_append, hdC_len (by first | assumption | exact Go.Proofs.B.shaB_length _ _ | solve_by_elim)]; rfl) | exact hdC_len (by first | assumption | exact Go.Proofs.B.shaB_length _ _ | solve_by_elim) | (rw [bcells_length]; first | assumption | exact Go.Proofs.B.shaB_length _ _ | solve_by_elim) | exact fc_length _ _ | exact fB_length _ _ | rfl) rfl ?_
    rw [ho]
    exact ⟨_, .inl ⟨by omega, rfl, rfl⟩, fun _ h => h.tail.tail.tail⟩
  by_cases h5 : c.kind = 5
  · have ho : onlyC c = ⟨c.kind, [], zRw, c.a, c.b, 0, 0, [], none, 0⟩ := by simp [onlyC, h5]
    refine J.seq ?_
    refine J.region ?_
    refine JL.mem rfl rfl (OpM.box rfl rfl) ?_; rintro _ _ ⟨b1, rfl, rfl⟩
    refine JL.mem rfl rfl OpM.alloc ?_; rintro _ _ ⟨b2, rfl, rfl⟩
    refine JL.pure rfl rfl (OpP.assign rfl) ?_
    refine JL.nil ?_
    refine J.seq ?_
    refine J.region ?_
    refine JL.pure rfl rfl (OpP.fieldAddr rfl) ?_
    refine JL.read rfl rfl (OpR.load1 rfl (Cell.row (.tail .head) rfl)) ?_
    refine JL.pure rfl rfl (OpP.build rfl (by (repeat (first | exact Fills.nil | (apply Fills.cons rfl rfl rfl; (case' hs => ((repeat (first | exact Spl.nil | apply Spl.here | apply Spl.there)); done))))))) ?_
    refine JL.mem rfl rfl OpM.alloc ?_; rintro _ _ ⟨b4, rfl, rfl⟩
    refine JL.mem0 rfl (by apply OpM.storeN rfl rfl (by rfl) (oneC rfl (oneC rfl (oneC rfl (oneC rfl (oneC rfl (oneC rfl (oneC rfl (oneC rfl (oneC rfl (oneC rfl (oneC rfl (oneC rfl (oneC rfl (one1 rfl)))))))))))))); (case' hu => exact .head); (case' hs => exact (.here (.here (.here (.here (.here (.here (.here (.here (.here (.here (.here (.here (.here (.here .nil))))))))))))))); done) ?_; rintro _ _ ⟨rfl, rfl⟩
    refine JL.nil ?_
    refine J.seq ?_
    refine J.seq ?_
    refine J.region ?_
    refine JL.pure rfl rfl (OpP.fieldAddr rfl) ?_
    refine JL.read rfl rfl (OpR.load1 rfl (Cell.row (.tail (.tail .head)) rfl)) ?_
    refine JL.nil ?_
    refine J.block ?_
    refine J.seq ?_
    refine J.region ?_
    refine JL.decF rfl rfl (OpP.eql rfl rfl) (by omega) ?_
    refine JL.pure rfl rfl (OpP.assign rfl) ?_
    refine JL.nil ?_
    refine J.condF rfl ?_
    refine J.seq ?_
    refine J.region ?_
    refine JL.decF rfl rfl (OpP.eql rfl rfl) (by omega) ?_
    refine JL.pure rfl rfl (OpP.assign rfl) ?_
    refine JL.nil ?_
    refine J.condF rfl ?_
    refine J.seq ?_
    refine J.region ?_
    refine JL.decF rfl rfl (OpP.eql rfl rfl) (by omega) ?_
    refine JL.pure rfl rfl (OpP.assign rfl) ?_
    refine JL.nil ?_
    refine J.condF rfl ?_
    refine J.seq ?_
    refine J.seq ?_
    refine J.region ?_
    refine JL.decF rfl rfl (OpP.eql rfl rfl) (by omega) ?_
    refine JL.pure rfl rfl (OpP.assign rfl) ?_
    refine JL.nil ?_
    refine J.condF rfl ?_
    refine J.seq ?_
    refine J.region ?_
    refine JL.decT rfl rfl (OpP.eql rfl rfl) (by omega) ?_
    refine JL.pure rfl rfl (OpP.assign rfl) ?_
    refine JL.nil ?_
    refine J.condT rfl ?_
    refine J.skip ?_
    refine J.condT rfl ?_
    refine J.regionDC (cl := row b1 66 c.cells :: F) [1, 3] (by kernel_rfl) ?_
    refine DL.pure (i := 0) (by kernel_rfl) (by kernel_rfl) rfl rfl rfl (OpP.fieldAddr rfl) ?_
    refine DL.read (i := 1) (by kernel_rfl) (by kernel_rfl) rfl rfl rfl (fun _ h => Own.pick (pre := [_, _, _]) [2] rfl h) (OpR.load1 rfl (Cell.row .head rfl)) ?_
    refine DL.pure (i := 2) (by kernel_rfl) (by kernel_rfl) rfl rfl rfl (OpP.fieldAddr rfl) ?_
    refine DL.read (i := 3) (by kernel_rfl) (by kernel_rfl) rfl rfl rfl (fun _ h => Own.pick (pre := [_, _, _]) [2] rfl h) (OpR.load1 rfl (Cell.row .head rfl)) ?_
    refine DL.pure (i := 4) (by kernel_rfl) (by kernel_rfl) rfl rfl rfl (OpP.fieldAddr rfl) ?_
    refine DL.only (i := 5) (by kernel_rfl) ?_
    refine DL1.stepK0 rfl rfl (OpM.w (by apply OpM.store1 rfl rfl rfl; (case' hu => exact .head); (case' hs => exact (.there (.there (.there (.there (.there (.there (.there (.there (.there (.here .nil))))))))))); done)) (by rintro _ _ ⟨rfl, rfl⟩ _ h; exact Own.pick (pre := [_, _, _]) [2] rfl h) ?_; rintro _ _ ⟨rfl, rfl⟩
    refine DL.pure (i := 6) (by kernel_rfl) (by kernel_rfl) rfl rfl rfl (OpP.fieldAddr rfl) ?_
    refine DL.only (i := 7) (by kernel_rfl) ?_
    refine DL1.stepF0 rfl rfl (by kernel_rfl) (OpM.w (by apply OpM.store1 rfl rfl rfl; (case' hu => exact .head); (case' hs => exact (.there (.there (.there (.there (.there (.there (.there (.there (.there (.there (.here .nil)))))))))))); done)) ?_; rintro _ _ ⟨rfl, rfl⟩
    refine DL.done (by kernel_rfl) ?_
    refine J.inBlock ?_
    refine J.seq ?_
    refine J.region ?_
    refine JL.read rfl rfl (OpR.loadN rfl (Cells.full .head) rfl) ?_
    refine JL.mem0 rfl (by apply OpM.storeN rfl rfl (by rfl) (oneC rfl (oneC rfl (oneC rfl (oneC rfl (oneC rfl (oneC rfl (oneC rfl (oneC rfl (oneC rfl (oneC rfl (oneC rfl (oneC rfl (oneC rfl (one1 rfl)))))))))))))); (case' hu => exact (.tail .head)); (case' hs => exact (.here (.here (.here (.here (.here (.here (.here (.here (.here (.here (.here (.here (.here (.here .nil))))))))))))))); done) ?_; rintro _ _ ⟨rfl, rfl⟩
    refine JL.pure rfl rfl (OpP.assign rfl) ?_
    refine JL.nil ?_
    refine J.retC2 rfl rfl (by apply Cells.full; (with_reducible repeat (first | exact .head | apply Has.tail))) (by first | (rw [List.length_append, hdC_len (by first | assumption | exact Go.Proofs.B.shaB_length _ _ | solve_by_elim)]; rfl) | exact hdC_len (by first | assumption | exact Go.Proofs.B.shaB_length _ _ | solve_by_elim) | (rw [bcells_length]; first | assumption | exact Go.Proofs.B.shaB_length _ _ | solve_by_elim) | exact fc_length _ _ | exact fB_length _ _ | rfl) rfl ?_
    rw [ho]
    exact ⟨_, .inl ⟨by omega, rfl, rfl⟩, fun _ h => h.tail.tail.tail⟩
  by_cases h6 : c.kind = 6
  · have ho : onlyC c = ⟨c.kind, [], zRw, c.a, c.b, 0, 0, [], none, 0⟩ := by simp [onlyC, h6]
    refine J.seq ?_
    refine J.region ?_
    refine JL.mem rfl rfl (OpM.box rfl rfl) ?_; rintro _ _ ⟨b1, rfl, rfl⟩
    refine JL.mem rfl rfl OpM.alloc ?_; rintro _ _ ⟨b2, rfl, rfl⟩
    refine JL.pure rfl rfl (OpP.assign rfl) ?_
    refine JL.nil ?_
    refine J.seq ?_
    refine J.region ?_
    refine JL.pure rfl rfl (OpP.fieldAddr rfl) ?_
    refine JL.read rfl rfl (OpR.load1 rfl (Cell.row (.tail .head) rfl)) ?_
    refine JL.pure rfl rfl (OpP.build rfl (by (repeat (first | exact Fills.nil | (apply Fills.cons rfl rfl rfl; (case' hs => ((repeat (first | exact Spl.nil | apply Spl.here | apply Spl.there)); done))))))) ?_
    refine JL.mem rfl rfl OpM.alloc ?_; rintro _ _ ⟨b4, rfl, rfl⟩
    refine JL.mem0 rfl (by apply OpM.storeN rfl rfl (by rfl) (oneC rfl (oneC rfl (oneC rfl (oneC rfl (oneC rfl (oneC rfl (oneC rfl (oneC rfl (oneC rfl (oneC rfl (oneC rfl (oneC rfl (oneC rfl (one1 rfl)))))))))))))); (case' hu => exact .head); (case' hs => exact (.here (.here (.here (.here (.here (.here (.here (.here (.here (.here (.here (.here (.here (.here .nil))))))))))))))); done) ?_; rintro _ _ ⟨rfl, rfl⟩
    refine JL.nil ?_
    refine J.seq ?_
    refine J.seq ?_
    refine J.region ?_
    refine JL.pure rfl rfl (OpP.fieldAddr rfl) ?_
    refine JL.read rfl rfl (OpR.load1 rfl (Cell.row (.tail (.tail .head)) rfl)) ?_
    refine JL.nil ?_
    refine J.block ?_
    refine J.seq ?_
    refine J.region ?_
    refine JL.decF rfl rfl (OpP.eql rfl rfl) (by omega) ?_
    refine JL.pure rfl rfl (OpP.assign rfl) ?_
    refine JL.nil ?_
    refine J.condF rfl ?_
    refine J.seq ?_
    refine J.region ?_
    refine JL.decF rfl rfl (OpP.eql rfl rfl) (by omega) ?_
    refine JL.pure rfl rfl (OpP.assign rfl) ?_
    refine JL.nil ?_
    refine J.condF rfl ?_
    refine J.seq ?_
    refine J.region ?_
    refine JL.decF rfl rfl (OpP.eql rfl rfl) (by omega) ?_
    refine JL.pure rfl rfl (OpP.assign rfl) ?_
    refine JL.nil ?_
    refine J.condF rfl ?_
    refine J.seq ?_
    refine J.seq ?_
    refine J.region ?_
    refine JL.decF rfl rfl (OpP.eql rfl rfl) (by omega) ?_
    refine JL.pure rfl rfl (OpP.assign rfl) ?_
    refine JL.nil ?_
    refine J.condF rfl ?_
    refine J.seq ?_
    refine J.region ?_
    refine JL.decF rfl rfl (OpP.eql rfl rfl) (by omega) ?_
    refine JL.pure rfl rfl (OpP.assign rfl) ?_
    refine JL.nil ?_
    refine J.condF rfl ?_
    refine J.seq ?_
    refine J.region ?_
    refine JL.decT rfl rfl (OpP.eql rfl rfl) (by omega) ?_
    refine JL.pure rfl rfl (OpP.assign rfl) ?_
    refine JL.nil ?_
    refine J.condT rfl ?_
    refine J.skip ?_
    refine J.condT rfl ?_
    refine J.regionDC (cl := row b1 66 c.cells :: F) [1, 3] (by kernel_rfl) ?_
    refine DL.pure (i := 0) (by kernel_rfl) (by kernel_rfl) rfl rfl rfl (OpP.fieldAddr rfl) ?_
    refine DL.read (i := 1) (by kernel_rfl) (by kernel_rfl) rfl rfl rfl (fun _ h => Own.pick (pre := [_, _, _]) [2] rfl h) (OpR.load1 rfl (Cell.row .head rfl)) ?_
    refine DL.pure (i := 2) (by kernel_rfl) (by kernel_rfl) rfl rfl rfl (OpP.fieldAddr rfl) ?_
    refine DL.read (i := 3) (by kernel_rfl) (by kernel_rfl) rfl rfl rfl (fun _ h => Own.pick (pre := [_, _, _]) [2] rfl h) (OpR.load1 rfl (Cell.row .head rfl)) ?_
    refine DL.pure (i := 4) (by kernel_rfl) (by kernel_rfl) rfl rfl rfl (OpP.fieldAddr rfl) ?_
    refine DL.only (i := 5) (by kernel_rfl) ?_
    refine DL1.stepK0 rfl rfl (OpM.w (by apply OpM.store1 rfl rfl rfl; (case' hu => exact .head); (case' hs => exact (.there (.there (.there (.there (.there (.there (.there (.there (.there (.here .nil))))))))))); done)) (by rintro _ _ ⟨rfl, rfl⟩ _ h; exact Own.pick (pre := [_, _, _]) [2] rfl h) ?_; rintro _ _ ⟨rfl, rfl⟩
    refine DL.pure (i := 6) (by kernel_rfl) (by kernel_rfl) rfl rfl rfl (OpP.fieldAddr rfl) ?_
    refine DL.only (i := 7) (by kernel_rfl) ?_
    refine DL1.stepF0 rfl rfl (by kernel_rfl) (OpM.w (by apply OpM.store1 rfl rfl rfl; (case' hu => exact .head); (case' hs => exact (.there (.there (.there (.there (.there (.there (.there (.there (.there (.there (.here .nil)))))))))))); done)) ?_; rintro _ _ ⟨rfl, rfl⟩
    refine DL.done (by kernel_rfl) ?_
    refine J.inBlock ?_
    refine J.seq ?_
    refine J.region ?_
    refine JL.read rfl rfl (OpR.loadN rfl (Cells.full .head) rfl) ?_
    refine JL.mem0 rfl (by apply OpM.storeN rfl rfl (by rfl) (oneC rfl (oneC rfl (oneC rfl (oneC rfl (oneC rfl (oneC rfl (oneC rfl (oneC rfl (oneC rfl (oneC rfl (oneC rfl (oneC rfl (oneC rfl (one1 rfl)))))))))))))); (case' hu => exact (.tail .head)); (case' hs => exact (.here (.here (.here (.here (.here (.here (.here (.here (.here (.here (.here (.here (.here (.here .nil))))))))))))))); done) ?_; rintro _ _ ⟨rfl, rfl⟩
    refine JL.pure rfl rfl (OpP.assign rfl) ?_
    refine JL.nil ?_
    refine J.retC2 rfl rfl (by apply Cells.full; (with_reducible repeat (first | exact .head | apply Has.tail))) (by first | (rw [List.length_append, hdC_len (by first | assumption | exact Go.Proofs.B.shaB_length _ _ | solve_by_elim)]; rfl) | exact hdC_len (by first | assumption | exact Go.Proofs.B.shaB_length _ _ | solve_by_elim) | (rw [bcells_length]; first | assumption | exact Go.Proofs.B.shaB_length _ _ | solve_by_elim) | exact fc_length _ _ | exact fB_length _ _ | rfl) rfl ?_
    rw [ho]
    exact ⟨_, .inl ⟨by omega, rfl, rfl⟩, fun _ h => h.tail.tail.tail⟩
  by_cases h7 : c.kind = 7
  · have ho : onlyC c = ⟨c.kind, [], zRw, c.a, c.b, 0, 0, [], none, 0⟩ := by simp [onlyC, h7]
    refine J.seq ?_
    refine J.region ?_
    refine JL.mem rfl rfl (OpM.box rfl rfl) ?_; rintro _ _ ⟨b1, rfl, rfl⟩
    refine JL.mem rfl rfl OpM.alloc ?_; rintro _ _ ⟨b2, rfl, rfl⟩
    refine JL.pure rfl rfl (OpP.assign rfl) ?_
    refine JL.nil ?_
    refine J.seq ?_
    refine J.region ?_
    refine JL.pure rfl rfl (OpP.fieldAddr rfl) ?_
    refine JL.read rfl rfl (OpR.load1 rfl (Cell.row (.tail .head) rfl)) ?_
    refine JL.pure rfl rfl (OpP.build rfl (by (repeat (first | exact Fills.nil | (apply Fills.cons rfl rfl rfl; (case' hs => ((repeat (first | exact Spl.nil | apply Spl.here | apply Spl.there)); done))))))) ?_
    refine JL.mem rfl rfl OpM.alloc ?_; rintro _ _ ⟨b4, rfl, rfl⟩
    refine JL.mem0 rfl (by apply OpM.storeN rfl rfl (by rfl) (oneC rfl (oneC rfl (oneC rfl (oneC rfl (oneC rfl (oneC rfl (oneC rfl (oneC rfl (oneC rfl (oneC rfl (oneC rfl (oneC rfl (oneC rfl (one1 rfl)))))))))))))); (case' hu => exact .head); (case' hs => exact (.here (.here (.here (.here (.here (.here (.here (.here (.here (.here (.here (.here (.here (.here .nil))))))))))))))); done) ?_; rintro _ _ ⟨rfl, rfl⟩
    refine JL.nil ?_
    refine J.seq ?_
    refine J.seq ?_
    refine J.region ?_
    refine JL.pure rfl rfl (OpP.fieldAddr rfl) ?_
    refine JL.read rfl rfl (OpR.load1 rfl (Cell.row (.tail (.tail .head)) rfl)) ?_
    refine JL.nil ?_
    refine J.block ?_
    refine J.seq ?_
    refine J.region ?_
    refine JL.decF rfl rfl (OpP.eql rfl rfl) (by omega) ?_
    refine JL.pure rfl rfl (OpP.assign rfl) ?_
    refine JL.nil ?_
    refine J.condF rfl ?_
    refine J.seq ?_
    refine J.region ?_
    refine JL.decF rfl rfl (OpP.eql rfl rfl) (by omega) ?_
    refine JL.pure rfl rfl (OpP.assign rfl) ?_
    refine JL.nil ?_
    refine J.condF rfl ?_
    refine J.seq ?_
    refine J.region ?_
    refine JL.decF rfl rfl (OpP.eql rfl rfl) (by omega) ?_
    refine JL.pure rfl rfl (OpP.assign rfl) ?_
    refine JL.nil ?_
    refine J.condF rfl ?_
    refine J.seq ?_
    refine J.seq ?_
    refine J.region ?_
    refine JL.decF rfl rfl (OpP.eql rfl rfl) (by omega) ?_
    refine JL.pure rfl rfl (OpP.assign rfl) ?_
    refine JL.nil ?_
    refine J.condF rfl ?_
    refine J.seq ?_
    refine J.region ?_
    refine JL.decF rfl rfl (OpP.eql rfl rfl) (by omega) ?_
    refine JL.pure rfl rfl (OpP.assign rfl) ?_
    refine JL.nil ?_
    refine J.condF rfl ?_
    refine J.seq ?_
    refine J.region ?_
    refine JL.decF rfl rfl (OpP.eql rfl rfl) (by omega) ?_
    refine JL.pure rfl rfl (OpP.assign rfl) ?_
    refine JL.nil ?_
    refine J.condF rfl ?_
    refine J.region ?_
    refine JL.decT rfl rfl (OpP.eql rfl rfl) (by omega) ?_
    refine JL.pure rfl rfl (OpP.assign rfl) ?_
    refine JL.nil ?_
    refine J.condT rfl ?_
    refine J.regionDC (cl := row b1 66 c.cells :: F) [1, 3] (by kernel_rfl) ?_
    refine DL.pure (i := 0) (by kernel_rfl) (by kernel_rfl) rfl rfl rfl (OpP.fieldAddr rfl) ?_
    refine DL.read (i := 1) (by kernel_rfl) (by kernel_rfl) rfl rfl rfl (fun _ h => Own.pick (pre := [_, _, _]) [2] rfl h) (OpR.load1 rfl (Cell.row .head rfl)) ?_
    refine DL.pure (i := 2) (by kernel_rfl) (by kernel_rfl) rfl rfl rfl (OpP.fieldAddr rfl) ?_
    refine DL.read (i := 3) (by kernel_rfl) (by kernel_rfl) rfl rfl rfl (fun _ h => Own.pick (pre := [_, _, _]) [2] rfl h) (OpR.load1 rfl (Cell.row .head rfl)) ?_
    refine DL.pure (i := 4) (by kernel_rfl) (by kernel_rfl) rfl rfl rfl (OpP.fieldAddr rfl) ?_
    refine DL.only (i := 5) (by kernel_rfl) ?_
    refine DL1.stepK0 rfl rfl (OpM.w (by apply OpM.store1 rfl rfl rfl; (case' hu => exact .head); (case' hs => exact (.there (.there (.there (.there (.there (.there (.there (.there (.there (.here .nil))))))))))); done)) (by rintro _ _ ⟨rfl, rfl⟩ _ h; exact Own.pick (pre := [_, _, _]) [2] rfl h) ?_; rintro _ _ ⟨rfl, rfl⟩
    refine DL.pure (i := 6) (by kernel_rfl) (by kernel_rfl) rfl rfl rfl (OpP.fieldAddr rfl) ?_
    refine DL.only (i := 7) (by kernel_rfl) ?_
    refine DL1.stepF0 rfl rfl (by kernel_rfl) (OpM.w (by apply OpM.store1 rfl rfl rfl; (case' hu => exact .head); (case' hs => exact (.there (.there (.there (.there (.there (.there (.there (.there (.there (.there (.here .nil)))))))))))); done)) ?_; rintro _ _ ⟨rfl, rfl⟩
    refine DL.done (by kernel_rfl) ?_
    refine J.inBlock ?_
    refine J.seq ?_
    refine J.region ?_
    refine JL.read rfl rfl (OpR.loadN rfl (Cells.full .head) rfl) ?_
    refine JL.mem0 rfl (by apply OpM.storeN rfl rfl (by rfl) (oneC rfl (oneC rfl (oneC rfl (oneC rfl (oneC rfl (oneC rfl (oneC rfl (oneC rfl (oneC rfl (oneC rfl (oneC rfl (oneC rfl (oneC rfl (one1 rfl)))))))))))))); (case' hu => exact (.tail .head)); (case' hs => exact (.here (.here (.here (.here (.here (.here (.here (.here (.here (.here (.here (.here (.here (.here .nil))))))))))))))); done) ?_; rintro _ _ ⟨rfl, rfl⟩
    refine JL.pure rfl rfl (OpP.assign rfl) ?_
    refine JL.nil ?_
    refine J.retC2 rfl rfl (by apply Cells.full; (with_reducible repeat (first | exact .head | apply Has.tail))) (by first | (rw [List.length_append, hdC_len (by first | assumption | exact Go.Proofs.B.shaB_length _ _ | solve_by_elim)]; rfl) | exact hdC_len (by first | assumption | exact Go.Proofs.B.shaB_length _ _ | solve_by_elim) | (rw [bcells_length]; first | assumption | exact Go.Proofs.B.shaB_length _ _ | solve_by_elim) | exact fc_length _ _ | exact fB_length _ _ | rfl) rfl ?_
    rw [ho]
    exact ⟨_, .inl ⟨by omega, rfl, rfl⟩, fun _ h => h.tail.tail.tail⟩
  by_cases h8 : c.kind = 8
  · have ho : onlyC c = ⟨c.kind, [], zRw, c.a, c.b, c.n, c.t, [], none, 0⟩ := by simp [onlyC, h8]
    refine J.seq ?_
    refine J.region ?_
    refine JL.mem rfl rfl (OpM.box rfl rfl) ?_; rintro _ _ ⟨b1, rfl, rfl⟩
    refine JL.mem rfl rfl OpM.alloc ?_; rintro _ _ ⟨b2, rfl, rfl⟩
    refine JL.pure rfl rfl (OpP.assign rfl) ?_
    refine JL.nil ?_
    refine J.seq ?_
    refine J.region ?_
    refine JL.pure rfl rfl (OpP.fieldAddr rfl) ?_
    refine JL.read rfl rfl (OpR.load1 rfl (Cell.row (.tail .head) rfl)) ?_
    refine JL.pure rfl rfl (OpP.build rfl (by (repeat (first | exact Fills.nil | (apply Fills.cons rfl rfl rfl; (case' hs => ((repeat (first | exact Spl.nil | apply Spl.here | apply Spl.there)); done))))))) ?_
    refine JL.mem rfl rfl OpM.alloc ?_; rintro _ _ ⟨b4, rfl, rfl⟩
    refine JL.mem0 rfl (by apply OpM.storeN rfl rfl (by rfl) (oneC rfl (oneC rfl (oneC rfl (oneC rfl (oneC rfl (oneC rfl (oneC rfl (oneC rfl (oneC rfl (oneC rfl (oneC rfl (oneC rfl (oneC rfl (one1 rfl)))))))))))))); (case' hu => exact .head); (case' hs => exact (.here (.here (.here (.here (.here (.here (.here (.here (.here (.here (.here (.here (.here (.here .nil))))))))))))))); done) ?_; rintro _ _ ⟨rfl, rfl⟩
    refine JL.nil ?_
    refine J.seq ?_
    refine J.seq ?_
    refine J.region ?_
    refine JL.pure rfl rfl (OpP.fieldAddr rfl) ?_
    refine JL.read rfl rfl (OpR.load1 rfl (Cell.row (.tail (.tail .head)) rfl)) ?_
    refine JL.nil ?_
    refine J.block ?_
    refine J.seq ?_
    refine J.region ?_
    refine JL.decF rfl rfl (OpP.eql rfl rfl) (by omega) ?_
    refine JL.pure rfl rfl (OpP.assign rfl) ?_
    refine JL.nil ?_
    refine J.condF rfl ?_
    refine J.seq ?_
    refine J.region ?_
    refine JL.decF rfl rfl (OpP.eql rfl rfl) (by omega) ?_
    refine JL.pure rfl rfl (OpP.assign rfl) ?_
    refine JL.nil ?_
    refine J.condF rfl ?_
    refine J.seq ?_
    refine J.region ?_
    refine JL.decF rfl rfl (OpP.eql rfl rfl) (by omega) ?_
    refine JL.pure rfl rfl (OpP.assign rfl) ?_
    refine JL.nil ?_
    refine J.condF rfl ?_
    refine J.seq ?_
    refine J.seq ?_
    refine J.region ?_
    refine JL.decF rfl rfl (OpP.eql rfl rfl) (by omega) ?_
    refine JL.pure rfl rfl (OpP.assign rfl) ?_
    refine JL.nil ?_
    refine J.condF rfl ?_
    refine J.seq ?_
    refine J.region ?_
    refine JL.decF rfl rfl (OpP.eql rfl rfl) (by omega) ?_
    refine JL.pure rfl rfl (OpP.assign rfl) ?_
    refine JL.nil ?_
    refine J.condF rfl ?_
    refine J.seq ?_
    refine J.region ?_
    refine JL.decF rfl rfl (OpP.eql rfl rfl) (by omega) ?_
    refine JL.pure rfl rfl (OpP.assign rfl) ?_
    refine JL.nil ?_
    refine J.condF rfl ?_
    refine J.region ?_
    refine JL.decF rfl rfl (OpP.eql rfl rfl) (by omega) ?_
    refine JL.pure rfl rfl (OpP.assign rfl) ?_
    refine JL.nil ?_
    refine J.condF rfl ?_
    refine J.seq ?_
    refine J.region ?_
    refine JL.decT rfl rfl (OpP.eql rfl rfl) (by omega) ?_
    refine JL.pure rfl rfl (OpP.assign rfl) ?_
    refine JL.nil ?_
    refine J.condT rfl ?_
    refine J.regionDC (cl := row b1 66 c.cells :: F) [1, 3, 5, 7] (by kernel_rfl) ?_
    refine DL.pure (i := 0) (by kernel_rfl) (by kernel_rfl) rfl rfl rfl (OpP.fieldAddr rfl) ?_
    refine DL.read (i := 1) (by kernel_rfl) (by kernel_rfl) rfl rfl rfl (fun _ h => Own.pick (pre := [_, _, _]) [2] rfl h) (OpR.load1 rfl (Cell.row .head rfl)) ?_
    refine DL.pure (i := 2) (by kernel_rfl) (by kernel_rfl) rfl rfl rfl (OpP.fieldAddr rfl) ?_
    refine DL.read (i := 3) (by kernel_rfl) (by kernel_rfl) rfl rfl rfl (fun _ h => Own.pick (pre := [_, _, _]) [2] rfl h) (OpR.load1 rfl (Cell.row .head rfl)) ?_
    refine DL.pure (i := 4) (by kernel_rfl) (by kernel_rfl) rfl rfl rfl (OpP.fieldAddr rfl) ?_
    refine DL.read (i := 5) (by kernel_rfl) (by kernel_rfl) rfl rfl rfl (fun _ h => Own.pick (pre := [_, _, _]) [2] rfl h) (OpR.load1 rfl (Cell.row .head rfl)) ?_
    refine DL.pure (i := 6) (by kernel_rfl) (by kernel_rfl) rfl rfl rfl (OpP.fieldAddr rfl) ?_
    refine DL.read (i := 7) (by kernel_rfl) (by kernel_rfl) rfl rfl rfl (fun _ h => Own.pick (pre := [_, _, _]) [2] rfl h) (OpR.load1 rfl (Cell.row .head rfl)) ?_
    refine DL.pure (i := 8) (by kernel_rfl) (by kernel_rfl) rfl rfl rfl (OpP.fieldAddr rfl) ?_
    refine DL.only (i := 9) (by kernel_rfl) ?_
    refine DL1.stepK0 rfl rfl (OpM.w (by apply OpM.store1 rfl rfl rfl; (case' hu => exact .head); (case' hs => exact (.there (.there (.there (.there (.there (.there (.there (.there (.there (.here .nil))))))))))); done)) (by rintro _ _ ⟨rfl, rfl⟩ _ h; exact Own.pick (pre := [_, _, _]) [2] rfl h) ?_; rintro _ _ ⟨rfl, rfl⟩
    refine DL.pure (i := 10) (by kernel_rfl) (by kernel_rfl) rfl rfl rfl (OpP.fieldAddr rfl) ?_
    refine DL.only (i := 11) (by kernel_rfl) ?_
    refine DL1.stepK0 rfl rfl (OpM.w (by apply OpM.store1 rfl rfl rfl; (case' hu => exact .head); (case' hs => exact (.there (.there (.there (.there (.there (.there (.there (.there (.there (.there (.here .nil)))))))))))); done)) (by rintro _ _ ⟨rfl, rfl⟩ _ h; exact Own.pick (pre := [_, _, _]) [2] rfl h) ?_; rintro _ _ ⟨rfl, rfl⟩
    refine DL.pure (i := 12) (by kernel_rfl) (by kernel_rfl) rfl rfl rfl (OpP.fieldAddr rfl) ?_
    refine DL.only (i := 13) (by kernel_rfl) ?_
    refine DL1.stepK0 rfl rfl (OpM.w (by apply OpM.store1 rfl rfl rfl; (case' hu => exact .head); (case' hs => exact (.there (.there (.there (.there (.there (.there (.there (.there (.there (.there (.there (.here .nil))))))))))))); done)) (by rintro _ _ ⟨rfl, rfl⟩ _ h; exact Own.pick (pre := [_, _, _]) [2] rfl h) ?_; rintro _ _ ⟨rfl, rfl⟩
    refine DL.pure (i := 14) (by kernel_rfl) (by kernel_rfl) rfl rfl rfl (OpP.fieldAddr rfl) ?_
    refine DL.only (i := 15) (by kernel_rfl) ?_
    refine DL1.stepF0 rfl rfl (by kernel_rfl) (OpM.w (by apply OpM.store1 rfl rfl rfl; (case' hu => exact .head); (case' hs => exact (.there (.there (.there (.there (.there (.there (.there (.there (.there (.there (.there (.there (.here .nil)))))))))))))); done)) ?_; rintro _ _ ⟨rfl, rfl⟩
    refine DL.done (by kernel_rfl) ?_
    refine J.inBlock ?_
    refine J.seq ?_
    refine J.region ?_
    refine JL.read rfl rfl (OpR.loadN rfl (Cells.full .head) rfl) ?_
    refine JL.mem0 rfl (by apply OpM.storeN rfl rfl (by rfl) (oneC rfl (oneC rfl (oneC rfl (oneC rfl (oneC rfl (oneC rfl (oneC rfl (oneC rfl (oneC rfl (oneC rfl (oneC rfl (oneC rfl (oneC rfl (one1 rfl)))))))))))))); (case' hu => exact (.tail .head)); (case' hs => exact (.here (.here (.here (.here (.here (.here (.here (.here (.here (.here (.here (.here (.here (.here .nil))))))))))))))); done) ?_; rintro _ _ ⟨rfl, rfl⟩
    refine JL.pure rfl rfl (OpP.assign rfl) ?_
    refine JL.nil ?_
    refine J.retC2 rfl rfl (by apply Cells.full; (with_reducible repeat (first | exact .head | apply Has.tail))) (by first | (rw [List.length_append, hdC_len (by first | assumption | exact Go.Proofs.B.shaB_length _ _ | solve_by_elim)]; rfl) | exact hdC_len (by first | assumption | exact Go.Proofs.B.shaB_length _ _ | solve_by_elim) | (rw [bcells_length]; first | assumption | exact Go.Proofs.B.shaB_length _ _ | solve_by_elim) | exact fc_length _ _ | exact fB_length _ _ | rfl) rfl ?_
    rw [ho]
    exact ⟨_, .inl ⟨by omega, rfl, rfl⟩, fun _ h => h.tail.tail.tail⟩
  by_cases h9 : c.kind = 9
  · have ho : onlyC c = ⟨c.kind, [], zRw, c.a, [], c.n, 0, [], none, 0⟩ := by simp [onlyC, h9]
    refine J.seq ?_
    refine J.region ?_
    refine JL.mem rfl rfl (OpM.box rfl rfl) ?_; rintro _ _ ⟨b1, rfl, rfl⟩
    refine JL.mem rfl rfl OpM.alloc ?_; rintro _ _ ⟨b2, rfl, rfl⟩
    refine JL.pure rfl rfl (OpP.assign rfl) ?_
    refine JL.nil ?_
    refine J.seq ?_
    refine J.region ?_
    refine JL.pure rfl rfl (OpP.fieldAddr rfl) ?_
    refine JL.read rfl rfl (OpR.load1 rfl (Cell.row (.tail .head) rfl)) ?_
    refine JL.pure rfl rfl (OpP.build rfl (by (repeat (first | exact Fills.nil | (apply Fills.cons rfl rfl rfl; (case' hs => ((repeat (first | exact Spl.nil | apply Spl.here | apply Spl.there)); done))))))) ?_
    refine JL.mem rfl rfl OpM.alloc ?_; rintro _ _ ⟨b4, rfl, rfl⟩
    refine JL.mem0 rfl (by apply OpM.storeN rfl rfl (by rfl) (oneC rfl (oneC rfl (oneC rfl (oneC rfl (oneC rfl (oneC rfl (oneC rfl (oneC rfl (oneC rfl (oneC rfl (oneC rfl (oneC rfl (oneC rfl (one1 rfl)))))))))))))); (case' hu => exact .head); (case' hs => exact (.here (.here (.here (.here (.here (.here (.here (.here (.here (.here (.here (.here (.here (.here .nil))))))))))))))); done) ?_; rintro _ _ ⟨rfl, rfl⟩
    refine JL.nil ?_
    refine J.seq ?_
    refine J.seq ?_
    refine J.region ?_
    refine JL.pure rfl rfl (OpP.fieldAddr rfl) ?_
    refine JL.read rfl rfl (OpR.load1 rfl (Cell.row (.tail (.tail .head)) rfl)) ?_
    refine JL.nil ?_
    refine J.block ?_
    refine J.seq ?_
    refine J.region ?_
    refine JL.decF rfl rfl (OpP.eql rfl rfl) (by omega) ?_
    refine JL.pure rfl rfl (OpP.assign rfl) ?_
    refine JL.nil ?_
    refine J.condF rfl ?_
    refine J.seq ?_
    refine J.region ?_
    refine JL.decF rfl rfl (OpP.eql rfl rfl) (by omega) ?_
    refine JL.pure rfl rfl (OpP.assign rfl) ?_
    refine JL.nil ?_
    refine J.condF rfl ?_
    refine J.seq ?_
    refine J.region ?_
    refine JL.decF rfl rfl (OpP.eql rfl rfl) (by omega) ?_
    refine JL.pure rfl rfl (OpP.assign rfl) ?_
    refine JL.nil ?_
    refine J.condF rfl ?_
    refine J.seq ?_
    refine J.seq ?_
    refine J.region ?_
    refine JL.decF rfl rfl (OpP.eql rfl rfl) (by omega) ?_
    refine JL.pure rfl rfl (OpP.assign rfl) ?_
    refine JL.nil ?_
    refine J.condF rfl ?_
    refine J.seq ?_
    refine J.region ?_
    refine JL.decF rfl rfl (OpP.eql rfl rfl) (by omega) ?_
    refine JL.pure rfl rfl (OpP.assign rfl) ?_
    refine JL.nil ?_
    refine J.condF rfl ?_
    refine J.seq ?_
    refine J.region ?_
    refine JL.decF rfl rfl (OpP.eql rfl rfl) (by omega) ?_
    refine JL.pure rfl rfl (OpP.assign rfl) ?_
    refine JL.nil ?_
    refine J.condF rfl ?_
    refine J.region ?_
    refine JL.decF rfl rfl (OpP.eql rfl rfl) (by omega) ?_
    refine JL.pure rfl rfl (OpP.assign rfl) ?_
    refine JL.nil ?_
    refine J.condF rfl ?_
    refine J.seq ?_
    refine J.region ?_
    refine JL.decF rfl rfl (OpP.eql rfl rfl) (by omega) ?_
    refine JL.pure rfl rfl (OpP.assign rfl) ?_
    refine JL.nil ?_
    refine J.condF rfl ?_
    refine J.seq ?_
    refine J.region ?_
    refine JL.decT rfl rfl (OpP.eql rfl rfl) (by omega) ?_
    refine JL.pure rfl rfl (OpP.assign rfl) ?_
    refine JL.nil ?_
    refine J.condT rfl ?_
    refine J.regionDC (cl := row b1 66 c.cells :: F) [1, 3] (by kernel_rfl) ?_
    refine DL.pure (i := 0) (by kernel_rfl) (by kernel_rfl) rfl rfl rfl (OpP.fieldAddr rfl) ?_
    refine DL.read (i := 1) (by kernel_rfl) (by kernel_rfl) rfl rfl rfl (fun _ h => Own.pick (pre := [_, _, _]) [2] rfl h) (OpR.load1 rfl (Cell.row .head rfl)) ?_
    refine DL.pure (i := 2) (by kernel_rfl) (by kernel_rfl) rfl rfl rfl (OpP.fieldAddr rfl) ?_
    refine DL.read (i := 3) (by kernel_rfl) (by kernel_rfl) rfl rfl rfl (fun _ h => Own.pick (pre := [_, _, _]) [2] rfl h) (OpR.load1 rfl (Cell.row .head rfl)) ?_
    refine DL.pure (i := 4) (by kernel_rfl) (by kernel_rfl) rfl rfl rfl (OpP.fieldAddr rfl) ?_
    refine DL.only (i := 5) (by kernel_rfl) ?_
    refine DL1.stepK0 rfl rfl (OpM.w (by apply OpM.store1 rfl rfl rfl; (case' hu => exact .head); (case' hs => exact (.there (.there (.there (.there (.there (.there (.there (.there (.there (.here .nil))))))))))); done)) (by rintro _ _ ⟨rfl, rfl⟩ _ h; exact Own.pick (pre := [_, _, _]) [2] rfl h) ?_; rintro _ _ ⟨rfl, rfl⟩
    refine DL.pure (i := 6) (by kernel_rfl) (by kernel_rfl) rfl rfl rfl (OpP.fieldAddr rfl) ?_
    refine DL.only (i := 7) (by kernel_rfl) ?_
    refine DL1.stepF0 rfl rfl (by kernel_rfl) (OpM.w (by apply OpM.store1 rfl rfl rfl; (case' hu => exact .head); (case' hs => exact (.there (.there (.there (.there (.there (.there (.there (.there (.there (.there (.there (.here .nil))))))))))))); done)) ?_; rintro _ _ ⟨rfl, rfl⟩
    refine DL.done (by kernel_rfl) ?_
    refine J.inBlock ?_
    refine J.seq ?_
    refine J.region ?_
    refine JL.read rfl rfl (OpR.loadN rfl (Cells.full .head) rfl) ?_
    refine JL.mem0 rfl (by apply OpM.storeN rfl rfl (by rfl) (oneC rfl (oneC rfl (oneC rfl (oneC rfl (oneC rfl (oneC rfl (oneC rfl (oneC rfl (oneC rfl (oneC rfl (oneC rfl (oneC rfl (oneC rfl (one1 rfl)))))))))))))); (case' hu => exact (.tail .head)); (case' hs => exact (.here (.here (.here (.here (.here (.here (.here (.here (.here (.here (.here (.here (.here (.here .nil))))))))))))))); done) ?_; rintro _ _ ⟨rfl, rfl⟩
    refine JL.pure rfl rfl (OpP.assign rfl) ?_
    refine JL.nil ?_
    refine J.retC2 rfl rfl (by apply Cells.full; (with_reducible repeat (first | exact .head | apply Has.tail))) (by first | (rw [List.length_append, hdC_len (by first | assumption | exact Go.Proofs.B.shaB_length _ _ | solve_by_elim)]; rfl) | exact hdC_len (by first | assumption | exact Go.Proofs.B.shaB_length _ _ | solve_by_elim) | (rw [bcells_length]; first | assumption | exact Go.Proofs.B.shaB_length _ _ | solve_by_elim) | exact fc_length _ _ | exact fB_length _ _ | rfl) rfl ?_
    rw [ho]
    exact ⟨_, .inl ⟨by omega, rfl, rfl⟩, fun _ h => h.tail.tail.tail⟩
  by_cases h10 : c.kind = 10
  · have ho : onlyC c = ⟨c.kind, [], zRw, [], [], 0, c.t, [], none, 0⟩ := by simp [onlyC, h10]
    refine J.seq ?_
    refine J.region ?_
    refine JL.mem rfl rfl (OpM.box rfl rfl) ?_; rintro _ _ ⟨b1, rfl, rfl⟩
    refine JL.mem rfl rfl OpM.alloc ?_; rintro _ _ ⟨b2, rfl, rfl⟩
    refine JL.pure rfl rfl (OpP.assign rfl) ?_
    refine JL.nil ?_
    refine J.seq ?_
    refine J.region ?_
    refine JL.pure rfl rfl (OpP.fieldAddr rfl) ?_
    refine JL.read rfl rfl (OpR.load1 rfl (Cell.row (.tail .head) rfl)) ?_
    refine JL.pure rfl rfl (OpP.build rfl (by (repeat (first | exact Fills.nil | (apply Fills.cons rfl rfl rfl; (case' hs => ((repeat (first | exact Spl.nil | apply Spl.here | apply Spl.there)); done))))))) ?_
    refine JL.mem rfl rfl OpM.alloc ?_; rintro _ _ ⟨b4, rfl, rfl⟩
    refine JL.mem0 rfl (by apply OpM.storeN rfl rfl (by rfl) (oneC rfl (oneC rfl (oneC rfl (oneC rfl (oneC rfl (oneC rfl (oneC rfl (oneC rfl (oneC rfl (oneC rfl (oneC rfl (oneC rfl (oneC rfl (one1 rfl)))))))))))))); (case' hu => exact .head); (case' hs => exact (.here (.here (.here (.here (.here (.here (.here (.here (.here (.here (.here (.here (.here (.here .nil))))))))))))))); done) ?_; rintro _ _ ⟨rfl, rfl⟩
    refine JL.nil ?_
    refine J.seq ?_
    refine J.seq ?_
    refine J.region ?_
    refine JL.pure rfl rfl (OpP.fieldAddr rfl) ?_
    refine JL.read rfl rfl (OpR.load1 rfl (Cell.row (.tail (.tail .head)) rfl)) ?_
    refine JL.nil ?_
    refine J.block ?_
    refine J.seq ?_
    refine J.region ?_
    refine JL.decF rfl rfl (OpP.eql rfl rfl) (by omega) ?_
    refine JL.pure rfl rfl (OpP.assign rfl) ?_
    refine JL.nil ?_
    refine J.condF rfl ?_
    refine J.seq ?_
    refine J.region ?_
    refine JL.decF rfl rfl (OpP.eql rfl rfl) (by omega) ?_
    refine JL.pure rfl rfl (OpP.assign rfl) ?_
    refine JL.nil ?_
    refine J.condF rfl ?_
    refine J.seq ?_
    refine J.region ?_
    refine JL.decF rfl rfl (OpP.eql rfl rfl) (by omega) ?_
    refine JL.pure rfl rfl (OpP.assign rfl) ?_
    refine JL.nil ?_
    refine J.condF rfl ?_
    refine J.seq ?_
    refine J.seq ?_
    refine J.region ?_
    refine JL.decF rfl rfl (OpP.eql rfl rfl) (by omega) ?_
    refine JL.pure rfl rfl (OpP.assign rfl) ?_
    refine JL.nil ?_
    refine J.condF rfl ?_
    refine J.seq ?_
    refine J.region ?_
    refine JL.decF rfl rfl (OpP.eql rfl rfl) (by omega) ?_
    refine JL.pure rfl rfl (OpP.assign rfl) ?_
    refine JL.nil ?_
    refine J.condF rfl ?_
    refine J.seq ?_
    refine J.region ?_
    refine JL.decF rfl rfl (OpP.eql rfl rfl) (by omega) ?_
    refine JL.pure rfl rfl (OpP.assign rfl) ?_
    refine JL.nil ?_
    refine J.condF rfl ?_
    refine J.region ?_
    refine JL.decF rfl rfl (OpP.eql rfl rfl) (by omega) ?_
    refine JL.pure rfl rfl (OpP.assign rfl) ?_
    refine JL.nil ?_
    refine J.condF rfl ?_
    refine J.seq ?_
    refine J.region ?_
    refine JL.decF rfl rfl (OpP.eql rfl rfl) (by omega) ?_
    refine JL.pure rfl rfl (OpP.assign rfl) ?_
    refine JL.nil ?_
    refine J.condF rfl ?_
    refine J.seq ?_
    refine J.region ?_
    refine JL.decF rfl rfl (OpP.eql rfl rfl) (by omega) ?_
    refine JL.pure rfl rfl (OpP.assign rfl) ?_
    refine JL.nil ?_
    refine J.condF rfl ?_
    refine J.seq ?_
    refine J.region ?_
    refine JL.decT rfl rfl (OpP.eql rfl rfl) (by omega) ?_
    refine JL.pure rfl rfl (OpP.assign rfl) ?_
    refine JL.nil ?_
    refine J.condT rfl ?_
    refine J.region ?_
    refine JL.pure rfl rfl (OpP.fieldAddr rfl) ?_
    refine JL.read rfl rfl (OpR.load1 rfl (Cell.row (.tail (.tail .head)) rfl)) ?_
    refine JL.pure rfl rfl (OpP.fieldAddr rfl) ?_
    refine JL.mem0 rfl (by apply OpM.store1 rfl rfl rfl; (case' hu => exact .head); (case' hs => exact (.there (.there (.there (.there (.there (.there (.there (.there (.there (.there (.there (.there (.here .nil)))))))))))))); done) ?_; rintro _ _ ⟨rfl, rfl⟩
    refine JL.nil ?_
    refine J.inBlock ?_
    refine J.seq ?_
    refine J.region ?_
    refine JL.read rfl rfl (OpR.loadN rfl (Cells.full .head) rfl) ?_
    refine JL.mem0 rfl (by apply OpM.storeN rfl rfl (by rfl) (oneC rfl (oneC rfl (oneC rfl (oneC rfl (oneC rfl (oneC rfl (oneC rfl (oneC rfl (oneC rfl (oneC rfl (oneC rfl (oneC rfl (oneC rfl (one1 rfl)))))))))))))); (case' hu => exact (.tail .head)); (case' hs => exact (.here (.here (.here (.here (.here (.here (.here (.here (.here (.here (.here (.here (.here (.here .nil))))))))))))))); done) ?_; rintro _ _ ⟨rfl, rfl⟩
    refine JL.pure rfl rfl (OpP.assign rfl) ?_
    refine JL.nil ?_
    refine J.retC2 rfl rfl (by apply Cells.full; (with_reducible repeat (first | exact .head | apply Has.tail))) (by first | (rw [List.length_append, hdC_len (by first | assumption | exact Go.Proofs.B.shaB_length _ _ | solve_by_elim)]; rfl) | exact hdC_len (by first | assumption | exact Go.Proofs.B.shaB_length _ _ | solve_by_elim) | (rw [bcells_length]; first | assumption | exact Go.Proofs.B.shaB_length _ _ | solve_by_elim) | exact fc_length _ _ | exact fB_length _ _ | rfl) rfl ?_
    rw [ho]
    exact ⟨_, .inl ⟨by omega, rfl, rfl⟩, fun _ h => h.tail.tail.tail⟩
  by_cases h11 : c.kind = 11
  · have ho : onlyC c = ⟨c.kind, [], zRw, c.a, c.b, 0, 0, c.hs, c.ha, c.hc⟩ := by simp [onlyC, h11]
    refine J.seq ?_
    refine J.region ?_
    refine JL.mem rfl rfl (OpM.box rfl rfl) ?_; rintro _ _ ⟨b1, rfl, rfl⟩
    refine JL.mem rfl rfl OpM.alloc ?_; rintro _ _ ⟨b2, rfl, rfl⟩
    refine JL.pure rfl rfl (OpP.assign rfl) ?_
    refine JL.nil ?_
    refine J.seq ?_
    refine J.region ?_
    refine JL.pure rfl rfl (OpP.fieldAddr rfl) ?_
    refine JL.read rfl rfl (OpR.load1 rfl (Cell.row (.tail .head) rfl)) ?_
    refine JL.pure rfl rfl (OpP.build rfl (by (repeat (first | exact Fills.nil | (apply Fills.cons rfl rfl rfl; (case' hs => ((repeat (first | exact Spl.nil | apply Spl.here | apply Spl.there)); done))))))) ?_
    refine JL.mem rfl rfl OpM.alloc ?_; rintro _ _ ⟨b4, rfl, rfl⟩
    refine JL.mem0 rfl (by apply OpM.storeN rfl rfl (by rfl) (oneC rfl (oneC rfl (oneC rfl (oneC rfl (oneC rfl (oneC rfl (oneC rfl (oneC rfl (oneC rfl (oneC rfl (oneC rfl (oneC rfl (oneC rfl (one1 rfl)))))))))))))); (case' hu => exact .head); (case' hs => exact (.here (.here (.here (.here (.here (.here (.here (.here (.here (.here (.here (.here (.here (.here .nil))))))))))))))); done) ?_; rintro _ _ ⟨rfl, rfl⟩
    refine JL.nil ?_
    refine J.seq ?_
    refine J.seq ?_
    refine J.region ?_
    refine JL.pure rfl rfl (OpP.fieldAddr rfl) ?_
    refine JL.read rfl rfl (OpR.load1 rfl (Cell.row (.tail (.tail .head)) rfl)) ?_
    refine JL.nil ?_
    refine J.block ?_
    refine J.seq ?_
    refine J.region ?_
    refine JL.decF rfl rfl (OpP.eql rfl rfl) (by omega) ?_
    refine JL.pure rfl rfl (OpP.assign rfl) ?_
    refine JL.nil ?_
    refine J.condF rfl ?_
    refine J.seq ?_
    refine J.region ?_
    refine JL.decF rfl rfl (OpP.eql rfl rfl) (by omega) ?_
    refine JL.pure rfl rfl (OpP.assign rfl) ?_
    refine JL.nil ?_
    refine J.condF rfl ?_
    refine J.seq ?_
    refine J.region ?_
    refine JL.decF rfl rfl (OpP.eql rfl rfl) (by omega) ?_
    refine JL.pure rfl rfl (OpP.assign rfl) ?_
    refine JL.nil ?_
    refine J.condF rfl ?_
    refine J.seq ?_
    refine J.seq ?_
    refine J.region ?_
    refine JL.decF rfl rfl (OpP.eql rfl rfl) (by omega) ?_
    refine JL.pure rfl rfl (OpP.assign rfl) ?_
    refine JL.nil ?_
    refine J.condF rfl ?_
    refine J.seq ?_
    refine J.region ?_
    refine JL.decF rfl rfl (OpP.eql rfl rfl) (by omega) ?_
    refine JL.pure rfl rfl (OpP.assign rfl) ?_
    refine JL.nil ?_
    refine J.condF rfl ?_
    refine J.seq ?_
    refine J.region ?_
    refine JL.decF rfl rfl (OpP.eql rfl rfl) (by omega) ?_
    refine JL.pure rfl rfl (OpP.assign rfl) ?_
    refine JL.nil ?_
    refine J.condF rfl ?_
    refine J.region ?_
    refine JL.decF rfl rfl (OpP.eql rfl rfl) (by omega) ?_
    refine JL.pure rfl rfl (OpP.assign rfl) ?_
    refine JL.nil ?_
    refine J.condF rfl ?_
    refine J.seq ?_
    refine J.region ?_
    refine JL.decF rfl rfl (OpP.eql rfl rfl) (by omega) ?_
    refine JL.pure rfl rfl (OpP.assign rfl) ?_
    refine JL.nil ?_
    refine J.condF rfl ?_
    refine J.seq ?_
    refine J.region ?_
    refine JL.decF rfl rfl (OpP.eql rfl rfl) (by omega) ?_
    refine JL.pure rfl rfl (OpP.assign rfl) ?_
    refine JL.nil ?_
    refine J.condF rfl ?_
    refine J.seq ?_
    refine J.region ?_
    refine JL.decF rfl rfl (OpP.eql rfl rfl) (by omega) ?_
    refine JL.pure rfl rfl (OpP.assign rfl) ?_
    refine JL.nil ?_
    refine J.condF rfl ?_
    refine J.seq ?_
    refine J.region ?_
    refine JL.decT rfl rfl (OpP.eql rfl rfl) (by omega) ?_
    refine JL.pure rfl rfl (OpP.assign rfl) ?_
    refine JL.nil ?_
    refine J.condT rfl ?_
    refine J.regionDC (cl := row b1 66 c.cells :: F) [1, 3, 5] (by kernel_rfl) ?_
    refine DL.pure (i := 0) (by kernel_rfl) (by kernel_rfl) rfl rfl rfl (OpP.fieldAddr rfl) ?_
    refine DL.read (i := 1) (by kernel_rfl) (by kernel_rfl) rfl rfl rfl (fun _ h => Own.pick (pre := [_, _, _]) [2] rfl h) (OpR.load1 rfl (Cell.row .head rfl)) ?_
    refine DL.pure (i := 2) (by kernel_rfl) (by kernel_rfl) rfl rfl rfl (OpP.fieldAddr rfl) ?_
    refine DL.read (i := 3) (by kernel_rfl) (by kernel_rfl) rfl rfl rfl (fun _ h => Own.pick (pre := [_, _, _]) [2] rfl h) (OpR.load1 rfl (Cell.row .head rfl)) ?_
    refine DL.pure (i := 4) (by kernel_rfl) (by kernel_rfl) rfl rfl rfl (OpP.fieldAddr rfl) ?_
    refine DL.read (i := 5) (by kernel_rfl) (by kernel_rfl) rfl rfl rfl (fun _ h => Own.pick (pre := [_, _, _]) [2] rfl h) (OpR.load1 rfl (Cell.row .head rfl)) ?_
    refine DL.pure (i := 6) (by kernel_rfl) (by kernel_rfl) rfl rfl rfl (OpP.fieldAddr rfl) ?_
    refine DL.only (i := 7) (by kernel_rfl) ?_
    refine DL1.stepK0 rfl rfl (OpM.w (by apply OpM.store1 rfl rfl rfl; (case' hu => exact .head); (case' hs => exact (.there (.there (.there (.there (.there (.there (.there (.there (.there (.here .nil))))))))))); done)) (by rintro _ _ ⟨rfl, rfl⟩ _ h; exact Own.pick (pre := [_, _, _]) [2] rfl h) ?_; rintro _ _ ⟨rfl, rfl⟩
    refine DL.pure (i := 8) (by kernel_rfl) (by kernel_rfl) rfl rfl rfl (OpP.fieldAddr rfl) ?_
    refine DL.only (i := 9) (by kernel_rfl) ?_
    refine DL1.stepK0 rfl rfl (OpM.w (by apply OpM.store1 rfl rfl rfl; (case' hu => exact .head); (case' hs => exact (.there (.there (.there (.there (.there (.there (.there (.there (.there (.there (.here .nil)))))))))))); done)) (by rintro _ _ ⟨rfl, rfl⟩ _ h; exact Own.pick (pre := [_, _, _]) [2] rfl h) ?_; rintro _ _ ⟨rfl, rfl⟩
    refine DL.pure (i := 10) (by kernel_rfl) (by kernel_rfl) rfl rfl rfl (OpP.fieldAddr rfl) ?_
    refine DL.only (i := 11) (by kernel_rfl) ?_
    refine DL1.stepF0 rfl rfl (by kernel_rfl) (OpM.w (by apply OpM.store1 rfl rfl rfl; (case' hu => exact .head); (case' hs => exact (.there (.there (.there (.there (.there (.there (.there (.there (.there (.there (.there (.there (.there (.here .nil))))))))))))))); done)) ?_; rintro _ _ ⟨rfl, rfl⟩
    refine DL.done (by kernel_rfl) ?_
    refine J.inBlock ?_
    refine J.seq ?_
    refine J.region ?_
    refine JL.read rfl rfl (OpR.loadN rfl (Cells.full .head) rfl) ?_
    refine JL.mem0 rfl (by apply OpM.storeN rfl rfl (by rfl) (oneC rfl (oneC rfl (oneC rfl (oneC rfl (oneC rfl (oneC rfl (oneC rfl (oneC rfl (oneC rfl (oneC rfl (oneC rfl (oneC rfl (oneC rfl (one1 rfl)))))))))))))); (case' hu => exact (.tail .head)); (case' hs => exact (.here (.here (.here (.here (.here (.here (.here (.here (.here (.here (.here (.here (.here (.here .nil))))))))))))))); done) ?_; rintro _ _ ⟨rfl, rfl⟩
    refine JL.pure rfl rfl (OpP.assign rfl) ?_
    refine JL.nil ?_
    refine J.retC2 rfl rfl (by apply Cells.full; (with_reducible repeat (first | exact .head | apply Has.tail))) (by first | (rw [List.length_append, hdC_len (by first | assumption | exact Go.Proofs.B.shaB_length _ _ | solve_by_elim)]; rfl) | exact hdC_len (by first | assumption | exact Go.Proofs.B.shaB_length _ _ | solve_by_elim) | (rw [bcells_length]; first | assumption | exact Go.Proofs.B.shaB_length _ _ | solve_by_elim) | exact fc_length _ _ | exact fB_length _ _ | rfl) rfl ?_
    rw [ho]
    exact ⟨_, .inl ⟨by omega, rfl, rfl⟩, fun _ h => h.tail.tail.tail⟩
  refine J.seq ?_
  refine J.region ?_
  refine JL.mem rfl rfl (OpM.box rfl rfl) ?_; rintro _ _ ⟨b1, rfl, rfl⟩
  refine JL.mem rfl rfl OpM.alloc ?_; rintro _ _ ⟨b2, rfl, rfl⟩
  refine JL.pure rfl rfl (OpP.assign rfl) ?_
  refine JL.nil ?_
  refine J.seq ?_
  refine J.region ?_
  refine JL.pure rfl rfl (OpP.fieldAddr rfl) ?_
  refine JL.read rfl rfl (OpR.load1 rfl (Cell.row (.tail .head) rfl)) ?_
  refine JL.pure rfl rfl (OpP.build rfl (by (repeat (first | exact Fills.nil | (apply Fills.cons rfl rfl rfl; (case' hs => ((repeat (first | exact Spl.nil | apply Spl.here | apply Spl.there)); done))))))) ?_
  refine JL.mem rfl rfl OpM.alloc ?_; rintro _ _ ⟨b4, rfl, rfl⟩
  refine JL.mem0 rfl (by apply OpM.storeN rfl rfl (by rfl) (oneC rfl (oneC rfl (oneC rfl (oneC rfl (oneC rfl (oneC rfl (oneC rfl (oneC rfl (oneC rfl (oneC rfl (oneC rfl (oneC rfl (oneC rfl (one1 rfl)))))))))))))); (case' hu => exact .head); (case' hs => exact (.here (.here (.here (.here (.here (.here (.here (.here (.here (.here (.here (.here (.here (.here .nil))))))))))))))); done) ?_; rintro _ _ ⟨rfl, rfl⟩
  refine JL.nil ?_
  refine J.seq ?_
  refine J.seq ?_
  refine J.region ?_
  refine JL.pure rfl rfl (OpP.fieldAddr rfl) ?_
  refine JL.read rfl rfl (OpR.load1 rfl (Cell.row (.tail (.tail .head)) rfl)) ?_
  refine JL.nil ?_
  refine J.block ?_
  refine J.seq ?_
  refine J.region ?_
  refine JL.decF rfl rfl (OpP.eql rfl rfl) (by omega) ?_
  refine JL.pure rfl rfl (OpP.assign rfl) ?_
  refine JL.nil ?_
  refine J.condF rfl ?_
  refine J.seq ?_
  refine J.region ?_
  refine JL.decF rfl rfl (OpP.eql rfl rfl) (by omega) ?_
  refine JL.pure rfl rfl (OpP.assign rfl) ?_
  refine JL.nil ?_
  refine J.condF rfl ?_
  refine J.seq ?_
  refine J.region ?_
  refine JL.decF rfl rfl (OpP.eql rfl rfl) (by omega) ?_
  refine JL.pure rfl rfl (OpP.assign rfl) ?_
  refine JL.nil ?_
  refine J.condF rfl ?_
  refine J.seq ?_
  refine J.seq ?_
  refine J.region ?_
  refine JL.decF rfl rfl (OpP.eql rfl rfl) (by omega) ?_
  refine JL.pure rfl rfl (OpP.assign rfl) ?_
  refine JL.nil ?_
  refine J.condF rfl ?_
  refine J.seq ?_
  refine J.region ?_
  refine JL.decF rfl rfl (OpP.eql rfl rfl) (by omega) ?_
  refine JL.pure rfl rfl (OpP.assign rfl) ?_
  refine JL.nil ?_
  refine J.condF rfl ?_
  refine J.seq ?_
  refine J.region ?_
  refine JL.decF rfl rfl (OpP.eql rfl rfl) (by omega) ?_
  refine JL.pure rfl rfl (OpP.assign rfl) ?_
  refine JL.nil ?_
  refine J.condF rfl ?_
  refine J.region ?_
  refine JL.decF rfl rfl (OpP.eql rfl rfl) (by omega) ?_
  refine JL.pure rfl rfl (OpP.assign rfl) ?_
  refine JL.nil ?_
  refine J.condF rfl ?_
  refine J.seq ?_
  refine J.region ?_
  refine JL.decF rfl rfl (OpP.eql rfl rfl) (by omega) ?_
  refine JL.pure rfl rfl (OpP.assign rfl) ?_
  refine JL.nil ?_
  refine J.condF rfl ?_
  refine J.seq ?_
  refine J.region ?_
  refine JL.decF rfl rfl (OpP.eql rfl rfl) (by omega) ?_
  refine JL.pure rfl rfl (OpP.assign rfl) ?_
  refine JL.nil ?_
  refine J.condF rfl ?_
  refine J.seq ?_
  refine J.region ?_
  refine JL.decF rfl rfl (OpP.eql rfl rfl) (by omega) ?_
  refine JL.pure rfl rfl (OpP.assign rfl) ?_
  refine JL.nil ?_
  refine J.condF rfl ?_
  refine J.seq ?_
  refine J.region ?_
  refine JL.decF rfl rfl (OpP.eql rfl rfl) (by omega) ?_
  refine JL.pure rfl rfl (OpP.assign rfl) ?_
  refine JL.nil ?_
  refine J.condF rfl ?_
  refine J.seq ?_
  refine J.region ?_
  refine JL.pure rfl rfl (OpP.build rfl (by (repeat (first | exact Fills.nil | (apply Fills.cons rfl rfl rfl; (case' hs => ((repeat (first | exact Spl.nil | apply Spl.here | apply Spl.there)); done))))))) ?_
  refine JL.mem0 rfl (by apply OpM.storeN rfl rfl (by rfl) (oneC rfl (oneC rfl (oneC rfl (oneC rfl (oneC rfl (oneC rfl (oneC rfl (oneC rfl (oneC rfl (oneC rfl (oneC rfl (oneC rfl (oneC rfl (one1 rfl)))))))))))))); (case' hu => exact (.tail .head)); (case' hs => exact (.here (.here (.here (.here (.here (.here (.here (.here (.here (.here (.here (.here (.here (.here .nil))))))))))))))); done) ?_; rintro _ _ ⟨rfl, rfl⟩
  refine JL.pure rfl rfl (OpP.assign rfl) ?_
  refine JL.nil ?_
  refine J.retC2 rfl rfl (by apply Cells.full; (with_reducible repeat (first | exact .head | apply Has.tail))) (by first | (rw [List.length_append, hdC_len (by first | assumption | exact Go.Proofs.B.shaB_length _ _ | solve_by_elim)]; rfl) | exact hdC_len (by first | assumption | exact Go.Proofs.B.shaB_length _ _ | solve_by_elim) | (rw [bcells_length]; first | assumption | exact Go.Proofs.B.shaB_length _ _ | solve_by_elim) | exact fc_length _ _ | exact fB_length _ _ | rfl) rfl ?_
  exact ⟨_, .inr ⟨by omega, rfl, rfl⟩, fun _ h => h.tail.tail.tail⟩
end Go.Proofs.E

-- seat e
namespace Go.Proofs.E
open Go Go.Gp Go.RowKit

abbrev Va.Fm (u : Va) : Prop := FormedP u.k u.i u.s u.xs
theorem formedV_ok {w0 : World} {F : List HProp} {u : Va} (h : VOk w0 F u) : FnO Try.prog w0 53 [.agg (vac u).toArray] F (fun r l' => ∃ b, r = .bool b ∧ l' = F ∧ (b = true ↔ u.Fm)) := formed_ok h.e h.n h.r
theorem refFormedV_ok {w0 : World} {F : List HProp} {u : Va} (h : VOk w0 F u) : FnO Try.prog w0 27 [.agg (vac u).toArray] F (fun r l' => ∃ b, r = .bool b ∧ l' = F ∧ (b = true ↔ u.Fm)) := refFormed_ok h.e h.n h.r
/-- Do the numbers and values of a command fit? -/
def FitP (m : Int) (c : Cm) : Prop := 0 ≤ c.n ∧ c.n ≤ m ∧ c.hs.length ≤ 255 ∧ c.row.v.Fm ∧ ∀ (j : Nat) (h : Hd), c.hs[j]? = some h → h.v.Fm
theorem fits_ok {w0 : World} {F : List HProp} {c : Cm} {m : Int} (hm : c.kind = 9 ∧ m = 65535 ∨ c.kind ≠ 9 ∧ m = 255) (hc : CmOk w0 F c) :
    FnO Try.prog w0 97 [.agg c.cells.toArray] F (fun r l' => ∃ b, r = .bool b ∧ l' = F ∧ (b = true ↔ FitP m c)) := by
  have hlen : ∀ e ∈ c.hs, (hcl e).length = 6 := fun _ _ => rfl
  have hn := hc.h.n
  have pr := fun (A : HProp) => formedV_ok (F := A :: F) (u := c.row.v) hc.v.sub
  refine FnO.rdF (fun _ h => h) hc.h.r fun hd1 => ?_
  refine FnO.weak ?_
  refine FnO.intro (n := 42) Try.func97 rfl rfl rfl ?_
  rcases hm with ⟨hk, rfl⟩ | ⟨hk, rfl⟩
  · refine J.seq ?_
    refine J.region ?_
    refine JL.mem rfl rfl (OpM.box rfl rfl) ?_; rintro _ _ ⟨b1, rfl, rfl⟩
    refine JL.pure rfl rfl (OpP.assign rfl) ?_
    refine JL.nil ?_
    refine J.seq ?_
    refine J.region ?_
    refine JL.pure rfl rfl (OpP.assign rfl) ?_
    refine JL.nil ?_
    refine J.seq ?_
    refine J.seq ?_
    refine J.region ?_
    refine JL.pure rfl rfl (OpP.fieldAddr rfl) ?_
    refine JL.read rfl rfl (OpR.load1 rfl (Cell.row .head rfl)) ?_
    refine JL.decT rfl rfl (OpP.eql rfl rfl) (by omega) ?_
    refine JL.nil ?_
    refine J.condT rfl ?_
    refine J.region ?_
    refine JL.pure rfl rfl (OpP.assign rfl) ?_
    refine JL.nil ?_
    refine J.seq ?_
    refine J.seq ?_
    refine J.region ?_
    refine JL.pure rfl rfl (OpP.fieldAddr rfl) ?_
    refine JL.read rfl rfl (OpR.load1 rfl (Cell.row .head rfl)) ?_
    refine JL.pure rfl rfl (OpP.len rfl rfl) ?_
    refine JL.pure rfl rfl (OpP.move rfl) ?_
    refine JL.nil ?_
    refine J.block ?_
    refine J.loopI (fun j : Nat => c.hs.length - j) (fun j => j ≤ c.hs.length ∧ ∀ (m : Nat) (x : Hd), m < j → c.hs[m]? = some x → x.v.Fm) (fun j => [(12, .int .i64 (j : Nat)), (11, .int .i64 (c.hs.length : Nat)), (10, .slice c.ha c.hs.length c.hc), (3, .int .i64 65535), (1, .pointer (some ⟨b1, 0, none⟩))])
      (fun _ => row b1 66 c.cells :: F) 0 ⟨Nat.zero_le _, fun _ _ h => absurd h (Nat.not_lt_zero _)⟩ (by repeat (first | exact SubEnv.nil | refine SubEnv.cons (by first | rfl | exact congrArg (fun z => some (Value.int .i64 z)) (by omega) | (simp; done)) ?_)) (fun _ h => h) (fun j hi back => ?_)
    dsimp only at hi back ⊢
    obtain ⟨hj, hg⟩ := hi
    by_cases hlt : j < c.hs.length
    · obtain ⟨x, hxj⟩ : ∃ e, c.hs[j]? = some e := ⟨_, List.getElem?_eq_getElem hlt⟩
      have pb := fun (A B : HProp) => formedV_ok (F := A :: B :: F) (u := x.v) (hc.h.v x (List.mem_of_getElem? hxj)).sub.sub
      obtain ⟨ga, pa, qa, ea, ka, hcs⟩ := hd1.pos (by omega)
      rw [ea] at hd1 back ⊢
      refine J.seq ?_
      refine J.region ?_
      refine JL.decT rfl rfl (OpP.lss rfl rfl) (by omega) ?_
      refine JL.nil ?_
      refine J.seq ?_
      refine J.condT rfl ?_
      refine J.skip ?_
      refine J.seq ?_
      refine J.block ?_
      refine J.seq ?_
      refine J.region ?_
      refine JL.pure rfl rfl (OpP.indexAddr rfl rfl (by omega) (by omega)) ?_
      refine JL.read rfl rfl (OpR.loadN rfl (by apply Cells.conv (fun _ h => Own.pick (pre := [_]) [] rfl h); apply Cells.chunkAt hcs; (case' h => assumption); (case' hi => assumption); done) (by first | rfl | assumption)) ?_
      refine JL.mem rfl rfl OpM.alloc ?_; rintro _ _ ⟨b5, rfl, rfl⟩
      refine JL.mem0 rfl (by apply OpM.storeN rfl rfl (by rfl) (oneC rfl (oneC rfl (oneC rfl (oneC rfl (oneC rfl (one1 rfl)))))); (case' hu => exact .head); (case' hs => exact (.here (.here (.here (.here (.here (.here .nil))))))); done) ?_; rintro _ _ ⟨rfl, rfl⟩
      refine JL.nil ?_
      refine J.seq ?_
      refine J.region ?_
      refine JL.pure rfl rfl (OpP.fieldAddr rfl) ?_
      refine JL.read rfl rfl (OpR.loadN rfl (Cells.sub 4 .head rfl) rfl) ?_
      refine JL.step rfl rfl (OpW.call (first := []) (captured := []) inferInstance rfl rfl (pb _ _)) ?_; rintro r18 _ ⟨b, ⟨rfl, ⟨rfl, h18⟩⟩⟩
      refine JL.pure rfl rfl (OpP.notB rfl) ?_
      refine JL.nil ?_
      refine J.splitAt 19 rfl (fun h19 => ?_) (fun h19 => ?_)
      focus
        refine J.condT rfl ?_
        refine J.seq ?_
        refine J.region ?_
        refine JL.pure rfl rfl (OpP.assign rfl) ?_
        refine JL.nil ?_
        refine J.ret1 rfl rfl ?_
      rotate_left 1
      focus
        refine J.condF rfl ?_
        refine J.skip ?_
        refine J.inBlock ?_
        refine J.region ?_
        refine JL.pure rfl rfl (OpP.addI rfl rfl (by omega) (by omega)) ?_
        refine JL.pure rfl rfl (OpP.move rfl) ?_
        refine JL.nil ?_
      rotate_left 1
      · exact ⟨_, ⟨_, rfl, rfl, fun q => absurd q Bool.false_ne_true, fun q => by have := h18.2 (q.2.2.2.2 j x hxj); rw [this] at h19; cases h19⟩, fun _ h => h.tail.tail⟩
      · have hxy : x.v.Fm := h18.1 (by cases b <;> first | rfl | cases h19)
        refine back (j + 1) ⟨by omega, fun m x' hm hx' => ?_⟩ (by omega) (by repeat (first | exact SubEnv.nil | refine SubEnv.cons (by first | rfl | exact congrArg (fun z => some (Value.int .i64 z)) (by omega) | (simp; done)) ?_)) (fun _ h => h.tail)
        rcases Nat.lt_or_ge m j with hmj | hmj
        · exact hg m x' hmj hx'
        · obtain rfl : m = j := by omega
          obtain rfl : x' = x := Option.some.inj (hx'.symm.trans hxj)
          exact hxy
    · have hall : ∀ (m : Nat) (x : Hd), c.hs[m]? = some x → x.v.Fm := fun m x hx => hg m x (by have := (List.getElem?_eq_some_iff.1 hx).1; omega) hx
      refine J.seq ?_
      refine J.region ?_
      refine JL.decF rfl rfl (OpP.lss rfl rfl) (by omega) ?_
      refine JL.nil ?_
      refine J.seq ?_
      refine J.condF rfl ?_
      refine J.exit rfl ?_
      refine J.seq ?_
      refine J.region ?_
      refine JL.pure rfl rfl (OpP.fieldAddr rfl) ?_
      refine JL.read rfl rfl (OpR.load1 rfl (Cell.row .head rfl)) ?_
      refine JL.dec rfl rfl (OpP.geq rfl rfl) (fun h23 => ?_) (fun h23 => ?_)
      focus
        refine JL.pure rfl rfl (OpP.move rfl) ?_
        refine JL.pure rfl rfl (OpP.fieldAddr rfl) ?_
        refine JL.read rfl rfl (OpR.load1 rfl (Cell.row .head rfl)) ?_
        refine JL.pure rfl rfl (OpP.move rfl) ?_
        refine JL.dec rfl rfl (OpP.leq rfl rfl) (fun h28 => ?_) (fun h28 => ?_)
        focus
          refine JL.pure rfl rfl (OpP.pickT rfl rfl) ?_
          refine JL.pure rfl rfl (OpP.move rfl) ?_
          refine JL.pure rfl rfl (OpP.fieldAddr rfl) ?_
          refine JL.read rfl rfl (OpR.load1 rfl (Cell.row .head rfl)) ?_
          refine JL.pure rfl rfl (OpP.len rfl rfl) ?_
          refine JL.dec rfl rfl (OpP.leq rfl rfl) (fun h34 => ?_) (fun h34 => ?_)
          focus
            refine JL.pure rfl rfl (OpP.pickT rfl rfl) ?_
            refine JL.pure rfl rfl (OpP.move rfl) ?_
            refine JL.pure rfl rfl (OpP.fieldAddr rfl) ?_
            refine JL.pure rfl rfl (OpP.fieldAddr rfl) ?_
            refine JL.read rfl rfl (OpR.loadN rfl (Cells.sub 4 .head rfl) rfl) ?_
            refine JL.step rfl rfl (OpW.call (first := []) (captured := []) inferInstance rfl rfl (pr _)) ?_; rintro r40 _ ⟨b, ⟨rfl, ⟨rfl, h40⟩⟩⟩
            refine JL.pure rfl rfl (OpP.pickT rfl rfl) ?_
            refine JL.pure rfl rfl (OpP.assign rfl) ?_
            refine JL.nil ?_
            refine J.ret1 rfl rfl ?_
          rotate_left 1
          focus
            refine JL.pure rfl rfl (OpP.pickT rfl rfl) ?_
            refine JL.pure rfl rfl (OpP.move rfl) ?_
            refine JL.skip rfl rfl ?_
            refine JL.skip rfl rfl ?_
            refine JL.skip rfl rfl ?_
            refine JL.skip rfl rfl ?_
            refine JL.pure rfl rfl (OpP.pickF rfl rfl) ?_
            refine JL.pure rfl rfl (OpP.assign rfl) ?_
            refine JL.nil ?_
            refine J.ret1 rfl rfl ?_
          rotate_left 1
        rotate_left 2
        focus
          refine JL.pure rfl rfl (OpP.pickT rfl rfl) ?_
          refine JL.pure rfl rfl (OpP.move rfl) ?_
          refine JL.skip rfl rfl ?_
          refine JL.skip rfl rfl ?_
          refine JL.skip rfl rfl ?_
          refine JL.skip rfl rfl ?_
          refine JL.pure rfl rfl (OpP.pickF rfl rfl) ?_
          refine JL.pure rfl rfl (OpP.move rfl) ?_
          refine JL.skip rfl rfl ?_
          refine JL.skip rfl rfl ?_
          refine JL.skip rfl rfl ?_
          refine JL.skip rfl rfl ?_
          refine JL.pure rfl rfl (OpP.pickF rfl rfl) ?_
          refine JL.pure rfl rfl (OpP.assign rfl) ?_
          refine JL.nil ?_
          refine J.ret1 rfl rfl ?_
        rotate_left 1
      rotate_left 3
      focus
        refine JL.pure rfl rfl (OpP.move rfl) ?_
        refine JL.skip rfl rfl ?_
        refine JL.skip rfl rfl ?_
        refine JL.skip rfl rfl ?_
        refine JL.skip rfl rfl ?_
        refine JL.pure rfl rfl (OpP.pickF rfl rfl) ?_
        refine JL.pure rfl rfl (OpP.move rfl) ?_
        refine JL.skip rfl rfl ?_
        refine JL.skip rfl rfl ?_
        refine JL.skip rfl rfl ?_
        refine JL.skip rfl rfl ?_
        refine JL.pure rfl rfl (OpP.pickF rfl rfl) ?_
        refine JL.pure rfl rfl (OpP.move rfl) ?_
        refine JL.skip rfl rfl ?_
        refine JL.skip rfl rfl ?_
        refine JL.skip rfl rfl ?_
        refine JL.skip rfl rfl ?_
        refine JL.pure rfl rfl (OpP.pickF rfl rfl) ?_
        refine JL.pure rfl rfl (OpP.assign rfl) ?_
        refine JL.nil ?_
        refine J.ret1 rfl rfl ?_
      rotate_left 1
      · exact ⟨_, ⟨_, rfl, rfl, fun q => ⟨by omega, by omega, by omega, h40.1 q, hall⟩, fun q => h40.2 q.2.2.2.1⟩, fun _ h => h.tail⟩
      all_goals exact ⟨_, ⟨_, rfl, rfl, fun q => absurd q Bool.false_ne_true, fun q => by have := q.1; have := q.2.1; have := q.2.2.1; omega⟩, fun _ h => h.tail⟩
  · refine J.seq ?_
    refine J.region ?_
    refine JL.mem rfl rfl (OpM.box rfl rfl) ?_; rintro _ _ ⟨b1, rfl, rfl⟩
    refine JL.pure rfl rfl (OpP.assign rfl) ?_
    refine JL.nil ?_
    refine J.seq ?_
    refine J.region ?_
    refine JL.pure rfl rfl (OpP.assign rfl) ?_
    refine JL.nil ?_
    refine J.seq ?_
    refine J.seq ?_
    refine J.region ?_
    refine JL.pure rfl rfl (OpP.fieldAddr rfl) ?_
    refine JL.read rfl rfl (OpR.load1 rfl (Cell.row .head rfl)) ?_
    refine JL.decF rfl rfl (OpP.eql rfl rfl) (by omega) ?_
    refine JL.nil ?_
    refine J.condF rfl ?_
    refine J.skip ?_
    refine J.seq ?_
    refine J.seq ?_
    refine J.region ?_
    refine JL.pure rfl rfl (OpP.fieldAddr rfl) ?_
    refine JL.read rfl rfl (OpR.load1 rfl (Cell.row .head rfl)) ?_
    refine JL.pure rfl rfl (OpP.len rfl rfl) ?_
    refine JL.pure rfl rfl (OpP.move rfl) ?_
    refine JL.nil ?_
    refine J.block ?_
    refine J.loopI (fun j : Nat => c.hs.length - j) (fun j => j ≤ c.hs.length ∧ ∀ (m : Nat) (x : Hd), m < j → c.hs[m]? = some x → x.v.Fm) (fun j => [(12, .int .i64 (j : Nat)), (11, .int .i64 (c.hs.length : Nat)), (10, .slice c.ha c.hs.length c.hc), (3, .int .i64 255), (1, .pointer (some ⟨b1, 0, none⟩))])
      (fun _ => row b1 66 c.cells :: F) 0 ⟨Nat.zero_le _, fun _ _ h => absurd h (Nat.not_lt_zero _)⟩ (by repeat (first | exact SubEnv.nil | refine SubEnv.cons (by first | rfl | exact congrArg (fun z => some (Value.int .i64 z)) (by omega) | (simp; done)) ?_)) (fun _ h => h) (fun j hi back => ?_)
    dsimp only at hi back ⊢
    obtain ⟨hj, hg⟩ := hi
    by_cases hlt : j < c.hs.length
    · obtain ⟨x, hxj⟩ : ∃ e, c.hs[j]? = some e := ⟨_, List.getElem?_eq_getElem hlt⟩
      have pb := fun (A B : HProp) => formedV_ok (F := A :: B :: F) (u := x.v) (hc.h.v x (List.mem_of_getElem? hxj)).sub.sub
      obtain ⟨ga, pa, qa, ea, ka, hcs⟩ := hd1.pos (by omega)
      rw [ea] at hd1 back ⊢
      refine J.seq ?_
      refine J.region ?_
      refine JL.decT rfl rfl (OpP.lss rfl rfl) (by omega) ?_
      refine JL.nil ?_
      refine J.seq ?_
      refine J.condT rfl ?_
      refine J.skip ?_
      refine J.seq ?_
      refine J.block ?_
      refine J.seq ?_
      refine J.region ?_
      refine JL.pure rfl rfl (OpP.indexAddr rfl rfl (by omega) (by omega)) ?_
      refine JL.read rfl rfl (OpR.loadN rfl (by apply Cells.conv (fun _ h => Own.pick (pre := [_]) [] rfl h); apply Cells.chunkAt hcs; (case' h => assumption); (case' hi => assumption); done) (by first | rfl | assumption)) ?_
      refine JL.mem rfl rfl OpM.alloc ?_; rintro _ _ ⟨b5, rfl, rfl⟩
      refine JL.mem0 rfl (by apply OpM.storeN rfl rfl (by rfl) (oneC rfl (oneC rfl (oneC rfl (oneC rfl (oneC rfl (one1 rfl)))))); (case' hu => exact .head); (case' hs => exact (.here (.here (.here (.here (.here (.here .nil))))))); done) ?_; rintro _ _ ⟨rfl, rfl⟩
      refine JL.nil ?_
      refine J.seq ?_
      refine J.region ?_
      refine JL.pure rfl rfl (OpP.fieldAddr rfl) ?_
      refine JL.read rfl rfl (OpR.loadN rfl (Cells.sub 4 .head rfl) rfl) ?_
      refine JL.step rfl rfl (OpW.call (first := []) (captured := []) inferInstance rfl rfl (pb _ _)) ?_; rintro r18 _ ⟨b, ⟨rfl, ⟨rfl, h18⟩⟩⟩
      refine JL.pure rfl rfl (OpP.notB rfl) ?_
      refine JL.nil ?_
      refine J.splitAt 19 rfl (fun h19 => ?_) (fun h19 => ?_)
      focus
        refine J.condT rfl ?_
        refine J.seq ?_
        refine J.region ?_
        refine JL.pure rfl rfl (OpP.assign rfl) ?_
        refine JL.nil ?_
        refine J.ret1 rfl rfl ?_
      rotate_left 1
      focus
        refine J.condF rfl ?_
        refine J.skip ?_
        refine J.inBlock ?_
        refine J.region ?_
        refine JL.pure rfl rfl (OpP.addI rfl rfl (by omega) (by omega)) ?_
        refine JL.pure rfl rfl (OpP.move rfl) ?_
        refine JL.nil ?_
      rotate_left 1
      · exact ⟨_, ⟨_, rfl, rfl, fun q => absurd q Bool.false_ne_true, fun q => by have := h18.2 (q.2.2.2.2 j x hxj); rw [this] at h19; cases h19⟩, fun _ h => h.tail.tail⟩
      · have hxy : x.v.Fm := h18.1 (by cases b <;> first | rfl | cases h19)
        refine back (j + 1) ⟨by omega, fun m x' hm hx' => ?_⟩ (by omega) (by repeat (first | exact SubEnv.nil | refine SubEnv.cons (by first | rfl | exact congrArg (fun z => some (Value.int .i64 z)) (by omega) | (simp; done)) ?_)) (fun _ h => h.tail)
        rcases Nat.lt_or_ge m j with hmj | hmj
        · exact hg m x' hmj hx'
        · obtain rfl : m = j := by omega
          obtain rfl : x' = x := Option.some.inj (hx'.symm.trans hxj)
          exact hxy
    · have hall : ∀ (m : Nat) (x : Hd), c.hs[m]? = some x → x.v.Fm := fun m x hx => hg m x (by have := (List.getElem?_eq_some_iff.1 hx).1; omega) hx
      refine J.seq ?_
      refine J.region ?_
      refine JL.decF rfl rfl (OpP.lss rfl rfl) (by omega) ?_
      refine JL.nil ?_
      refine J.seq ?_
      refine J.condF rfl ?_
      refine J.exit rfl ?_
      refine J.seq ?_
      refine J.region ?_
      refine JL.pure rfl rfl (OpP.fieldAddr rfl) ?_
      refine JL.read rfl rfl (OpR.load1 rfl (Cell.row .head rfl)) ?_
      refine JL.dec rfl rfl (OpP.geq rfl rfl) (fun h23 => ?_) (fun h23 => ?_)
      focus
        refine JL.pure rfl rfl (OpP.move rfl) ?_
        refine JL.pure rfl rfl (OpP.fieldAddr rfl) ?_
        refine JL.read rfl rfl (OpR.load1 rfl (Cell.row .head rfl)) ?_
        refine JL.pure rfl rfl (OpP.move rfl) ?_
        refine JL.dec rfl rfl (OpP.leq rfl rfl) (fun h28 => ?_) (fun h28 => ?_)
        focus
          refine JL.pure rfl rfl (OpP.pickT rfl rfl) ?_
          refine JL.pure rfl rfl (OpP.move rfl) ?_
          refine JL.pure rfl rfl (OpP.fieldAddr rfl) ?_
          refine JL.read rfl rfl (OpR.load1 rfl (Cell.row .head rfl)) ?_
          refine JL.pure rfl rfl (OpP.len rfl rfl) ?_
          refine JL.dec rfl rfl (OpP.leq rfl rfl) (fun h34 => ?_) (fun h34 => ?_)
          focus
            refine JL.pure rfl rfl (OpP.pickT rfl rfl) ?_
            refine JL.pure rfl rfl (OpP.move rfl) ?_
            refine JL.pure rfl rfl (OpP.fieldAddr rfl) ?_
            refine JL.pure rfl rfl (OpP.fieldAddr rfl) ?_
            refine JL.read rfl rfl (OpR.loadN rfl (Cells.sub 4 .head rfl) rfl) ?_
            refine JL.step rfl rfl (OpW.call (first := []) (captured := []) inferInstance rfl rfl (pr _)) ?_; rintro r40 _ ⟨b, ⟨rfl, ⟨rfl, h40⟩⟩⟩
            refine JL.pure rfl rfl (OpP.pickT rfl rfl) ?_
            refine JL.pure rfl rfl (OpP.assign rfl) ?_
            refine JL.nil ?_
            refine J.ret1 rfl rfl ?_
          rotate_left 1
          focus
            refine JL.pure rfl rfl (OpP.pickT rfl rfl) ?_
            refine JL.pure rfl rfl (OpP.move rfl) ?_
            refine JL.skip rfl rfl ?_
            refine JL.skip rfl rfl ?_
            refine JL.skip rfl rfl ?_
            refine JL.skip rfl rfl ?_
            refine JL.pure rfl rfl (OpP.pickF rfl rfl) ?_
            refine JL.pure rfl rfl (OpP.assign rfl) ?_
            refine JL.nil ?_
            refine J.ret1 rfl rfl ?_
          rotate_left 1
        rotate_left 2
        focus
          refine JL.pure rfl rfl (OpP.pickT rfl rfl) ?_
          refine JL.pure rfl rfl (OpP.move rfl) ?_
          refine JL.skip rfl rfl ?_
          refine JL.skip rfl rfl ?_
          refine JL.skip rfl rfl ?_
          refine JL.skip rfl rfl ?_
          refine JL.pure rfl rfl (OpP.pickF rfl rfl) ?_
          refine JL.pure rfl rfl (OpP.move rfl) ?_
          refine JL.skip rfl rfl ?_
          refine JL.skip rfl rfl ?_
          refine JL.skip rfl rfl ?_
          refine JL.skip rfl rfl ?_
          refine JL.pure rfl rfl (OpP.pickF rfl rfl) ?_
          refine JL.pure rfl rfl (OpP.assign rfl) ?_
          refine JL.nil ?_
          refine J.ret1 rfl rfl ?_
        rotate_left 1
      rotate_left 3
      focus
        refine JL.pure rfl rfl (OpP.move rfl) ?_
        refine JL.skip rfl rfl ?_
        refine JL.skip rfl rfl ?_
        refine JL.skip rfl rfl ?_
        refine JL.skip rfl rfl ?_
        refine JL.pure rfl rfl (OpP.pickF rfl rfl) ?_
        refine JL.pure rfl rfl (OpP.move rfl) ?_
        refine JL.skip rfl rfl ?_
        refine JL.skip rfl rfl ?_
        refine JL.skip rfl rfl ?_
        refine JL.skip rfl rfl ?_
        refine JL.pure rfl rfl (OpP.pickF rfl rfl) ?_
        refine JL.pure rfl rfl (OpP.move rfl) ?_
        refine JL.skip rfl rfl ?_
        refine JL.skip rfl rfl ?_
        refine JL.skip rfl rfl ?_
        refine JL.skip rfl rfl ?_
        refine JL.pure rfl rfl (OpP.pickF rfl rfl) ?_
        refine JL.pure rfl rfl (OpP.assign rfl) ?_
        refine JL.nil ?_
        refine J.ret1 rfl rfl ?_
      rotate_left 1
      · exact ⟨_, ⟨_, rfl, rfl, fun q => ⟨by omega, by omega, by omega, h40.1 q, hall⟩, fun q => h40.2 q.2.2.2.1⟩, fun _ h => h.tail⟩
      all_goals exact ⟨_, ⟨_, rfl, rfl, fun q => absurd q Bool.false_ne_true, fun q => by have := q.1; have := q.2.1; have := q.2.2.1; omega⟩, fun _ h => h.tail⟩
end Go.Proofs.E

-- seat e
namespace Go.Proofs.E
open Go Go.Gp Go.RowKit

theorem vOk_z {w0 : World} {F : List HProp} : VOk w0 F zVa := ⟨Nat.zero_le _, by simp, by simp, rd_zVa⟩
theorem hsOk_z {w0 : World} {F : List HProp} : HsOk w0 F none 0 [] := ⟨Nat.zero_le _, by simp, RdO.nil0⟩
theorem CmOk.only {w0 : World} {F : List HProp} {c : Cm} (h : CmOk w0 F c) : CmOk w0 F (onlyC c) := by
  unfold onlyC
  repeat' split
  all_goals first
    | exact ⟨vOk_z, hsOk_z⟩
    | exact ⟨h.v, hsOk_z⟩
    | exact ⟨vOk_z, h.h⟩
theorem cmOk_z {w0 : World} {F : List HProp} : CmOk w0 F zCm := ⟨vOk_z, hsOk_z⟩
def mostN (c : Cm) : Int := if c.kind = 9 then 65535 else 255
theorem mostN_or (c : Cm) : c.kind = 9 ∧ mostN c = 65535 ∨ c.kind ≠ 9 ∧ mostN c = 255 := by
  unfold mostN
  split
  · exact .inl ⟨by assumption, rfl⟩
  · exact .inr ⟨by assumption, rfl⟩
/-- Commands that have bytes. -/
def FormedC (c : Cm) : Prop := (1 ≤ c.kind ∧ c.kind ≤ 11) ∧ FitP (mostN c) c ∧ (onlyC c).Eq c
theorem formedC_ok {w0 : World} {F : List HProp} {c : Cm} (hc : CmOk w0 F c) :
    FnO Try.prog w0 79 [.agg c.cells.toArray] F (fun r l' => ∃ b, r = .bool b ∧ l' = F ∧ (b = true ↔ FormedC c)) := by
  have p1 := fun (A B : HProp) => fits_ok (F := A :: B :: F) (mostN_or c) hc.sub.sub
  have p2 := fun (A B : HProp) => sameCm_ok (F := A :: B :: F) hc.sub.sub.only hc.sub.sub
  refine FnO.weak ?_
  refine FnO.intro (n := 20) Try.func79 rfl rfl rfl ?_
  refine J.seq ?_
  refine J.region ?_
  refine JL.mem rfl rfl (OpM.box rfl rfl) ?_; rintro _ _ ⟨b1, rfl, rfl⟩
  refine JL.pure rfl rfl (OpP.assign rfl) ?_
  refine JL.nil ?_
  refine J.seq ?_
  refine J.region ?_
  refine JL.read rfl rfl (OpR.loadN rfl (Cells.full .head) rfl) ?_
  refine JL.step rfl rfl (OpW.call (first := []) (captured := []) inferInstance rfl rfl only_ok) ?_; rintro r7 _ (⟨⟨h7, h71⟩, ⟨rfl, rfl⟩⟩ | ⟨h72, ⟨rfl, rfl⟩⟩)
  focus
    refine JL.pure rfl rfl (OpP.move rfl) ?_
    refine JL.pure rfl rfl (OpP.extract rfl rfl) ?_
    refine JL.pure rfl rfl (OpP.extract rfl rfl) ?_
    refine JL.mem rfl rfl OpM.alloc ?_; rintro _ _ ⟨b3, rfl, rfl⟩
    refine JL.mem0 rfl (by apply OpM.storeN rfl rfl (by rfl) (oneC rfl (oneC rfl (oneC rfl (oneC rfl (oneC rfl (oneC rfl (oneC rfl (oneC rfl (oneC rfl (oneC rfl (oneC rfl (oneC rfl (oneC rfl (one1 rfl)))))))))))))); (case' hu => exact .head); (case' hs => exact (.here (.here (.here (.here (.here (.here (.here (.here (.here (.here (.here (.here (.here (.here .nil))))))))))))))); done) ?_; rintro _ _ ⟨rfl, rfl⟩
    refine JL.pure rfl rfl (OpP.assign rfl) ?_
    refine JL.nil ?_
    refine J.seq ?_
    refine J.region ?_
    refine JL.pure rfl rfl (OpP.move rfl) ?_
    refine JL.pure rfl rfl (OpP.move rfl) ?_
    refine JL.read rfl rfl (OpR.loadN rfl (Cells.full (.tail .head)) rfl) ?_
    refine JL.step rfl rfl (OpW.call (first := []) (captured := []) inferInstance rfl rfl (p1 _ _)) ?_; rintro r13 _ ⟨b, ⟨rfl, ⟨rfl, h13⟩⟩⟩
    refine JL.pure rfl rfl (OpP.pickT rfl rfl) ?_
    refine JL.pure rfl rfl (OpP.move rfl) ?_
    refine JL.splitAt 15 rfl (fun h15 => ?_) (fun h15 => ?_)
    focus
      refine JL.read rfl rfl (OpR.loadN rfl (Cells.full .head) rfl) ?_
      refine JL.read rfl rfl (OpR.loadN rfl (Cells.full (.tail .head)) rfl) ?_
      refine JL.step rfl rfl (OpW.call (first := []) (captured := []) inferInstance rfl rfl (p2 _ _)) ?_; rintro r18 _ ⟨b2, ⟨rfl, ⟨rfl, h18⟩⟩⟩
      refine JL.pure rfl rfl (OpP.pickT rfl rfl) ?_
      refine JL.pure rfl rfl (OpP.assign rfl) ?_
      refine JL.nil ?_
      refine J.ret1 rfl rfl ?_
    rotate_left 1
    focus
      refine JL.skip rfl rfl ?_
      refine JL.skip rfl rfl ?_
      refine JL.skip rfl rfl ?_
      refine JL.pure rfl rfl (OpP.pickF rfl rfl) ?_
      refine JL.pure rfl rfl (OpP.assign rfl) ?_
      refine JL.nil ?_
      refine J.ret1 rfl rfl ?_
    rotate_left 1
  rotate_left 2
  focus
    refine JL.pure rfl rfl (OpP.move rfl) ?_
    refine JL.pure rfl rfl (OpP.extract rfl rfl) ?_
    refine JL.pure rfl rfl (OpP.extract rfl rfl) ?_
    refine JL.mem rfl rfl OpM.alloc ?_; rintro _ _ ⟨b3, rfl, rfl⟩
    refine JL.mem0 rfl (by apply OpM.storeN rfl rfl (by rfl) (oneC rfl (oneC rfl (oneC rfl (oneC rfl (oneC rfl (oneC rfl (oneC rfl (oneC rfl (oneC rfl (oneC rfl (oneC rfl (oneC rfl (oneC rfl (one1 rfl)))))))))))))); (case' hu => exact .head); (case' hs => exact (.here (.here (.here (.here (.here (.here (.here (.here (.here (.here (.here (.here (.here (.here .nil))))))))))))))); done) ?_; rintro _ _ ⟨rfl, rfl⟩
    refine JL.pure rfl rfl (OpP.assign rfl) ?_
    refine JL.nil ?_
    refine J.seq ?_
    refine J.region ?_
    refine JL.pure rfl rfl (OpP.move rfl) ?_
    refine JL.pure rfl rfl (OpP.move rfl) ?_
    refine JL.skip rfl rfl ?_
    refine JL.skip rfl rfl ?_
    refine JL.pure rfl rfl (OpP.pickF rfl rfl) ?_
    refine JL.pure rfl rfl (OpP.move rfl) ?_
    refine JL.skip rfl rfl ?_
    refine JL.skip rfl rfl ?_
    refine JL.skip rfl rfl ?_
    refine JL.pure rfl rfl (OpP.pickF rfl rfl) ?_
    refine JL.pure rfl rfl (OpP.assign rfl) ?_
    refine JL.nil ?_
    refine J.ret1 rfl rfl ?_
  rotate_left 1
  · exact ⟨_, ⟨_, rfl, rfl, fun q => ⟨⟨h7, h71⟩, h13.1 h15, h18.1 q⟩, fun q => h18.2 q.2.2⟩, fun _ h => h.tail.tail⟩
  · exact ⟨_, ⟨_, rfl, rfl, fun q => absurd q Bool.false_ne_true, fun q => by have := h13.2 q.2.1; rw [h15] at this; cases this⟩, fun _ h => h.tail.tail⟩
  · exact ⟨_, ⟨_, rfl, rfl, fun q => absurd q Bool.false_ne_true, fun q => by have := q.1; omega⟩, fun _ h => h.tail.tail⟩
end Go.Proofs.E

-- seat e
namespace Go.Proofs.E
open Go Go.Gp Go.RowKit

abbrev Cm.cellsAt (c : Cm) (v : Value) : List Value := [.int .i64 c.kind, .string (strB c.text), .string (strB c.row.who), .string (strB c.row.name), .string (strB c.row.attr), .int .i64 c.row.v.k, .int .i64 c.row.v.i, .string (strB c.row.v.s), .slice c.row.v.a c.row.v.xs.length c.row.v.c, .string (strB c.a), .string (strB c.b), .int .i64 c.n, .int .i64 c.t, v]
def May1 (c : Cm) : Prop := (1 ≤ c.kind ∧ c.kind ≤ 11) ∧ (c.kind = 1 ∨ c.text.length = 0) ∧ (c.kind = 8 ∨ c.kind = 9 ∨ c.n = 0) ∧ (c.kind = 8 ∨ c.kind = 10 ∨ c.t = 0) ∧ (c.kind = 11 ∨ c.hs.length = 0)
def May2 (c : Cm) : Prop := (c.kind = 2 ∨ c.kind = 3 ∨ c.row.who.length = 0 ∧ c.row.name.length = 0 ∧ c.row.attr.length = 0) ∧ (c.kind = 2 ∨ VaEq c.row.v zVa)
def May3 (c : Cm) : Prop := ((4 ≤ c.kind ∧ c.kind ≠ 10) ∨ c.a.length = 0 ∧ c.b.length = 0) ∧ (c.kind ≠ 9 ∨ c.b.length = 0)
def May4 (c : Cm) : Prop := 0 ≤ c.n ∧ (c.kind ≠ 8 ∨ c.n ≤ 255) ∧ c.n ≤ 65535 ∧ c.hs.length ≤ 255 ∧ c.row.v.Fm
def May5 (c : Cm) : Prop := ∀ (j : Nat) (h : Hd), c.hs[j]? = some h → h.v.Fm
/-- The chapter: may a command be? -/
def MayP (c : Cm) : Prop := May1 c ∧ May2 c ∧ May3 c ∧ May4 c ∧ May5 c
set_option maxHeartbeats 4000000 in
theorem may_ok {w0 : World} {F : List HProp} {c : Cm} (hc : CmOk w0 F c) (hz1 : c.row.who.length + c.row.name.length + c.row.attr.length ≤ 1000000000) (hz2 : c.a.length + c.b.length ≤ 1000000000) :
    FnO Try.prog w0 38 [.agg c.cells.toArray] F (fun r l' => ∃ b, r = .bool b ∧ l' = F ∧ (b = true ↔ MayP c)) := by
  have hlen : ∀ e ∈ c.hs, (hcl e).length = 6 := fun _ _ => rfl
  have hn := hc.h.n
  have p1 := fun (A : HProp) => sameV_ok (F := A :: F) (u := c.row.v) (v := zVa) hc.v.sub vOk_z
  have p2 := fun (A : HProp) => refFormedV_ok (F := A :: F) (u := c.row.v) hc.v.sub
  refine FnO.rdF (fun _ h => h) hc.h.r fun hd1 => ?_
  refine FnO.weak ?_
  refine FnO.intro (n := 158) Try.func38 rfl rfl rfl ?_
  refine J.seq ?_
  refine J.region ?_
  refine JL.mem rfl rfl (OpM.box rfl rfl) ?_; rintro _ _ ⟨b1, rfl, rfl⟩
  refine JL.pure rfl rfl (OpP.assign rfl) ?_
  refine JL.nil ?_
  refine J.seq ?_
  refine J.region ?_
  refine JL.pure rfl rfl (OpP.fieldAddr rfl) ?_
  refine JL.read rfl rfl (OpR.load1 rfl (Cell.row .head rfl)) ?_
  refine JL.pure rfl rfl (OpP.assign rfl) ?_
  refine JL.nil ?_
  refine J.seq ?_
  refine J.cut (σ := Unit) (fun _ => May1 c) (fun _ => [(3, .int .i64 c.kind), (1, .pointer (some ⟨b1, 0, none⟩))]) (fun _ => row b1 66 c.cells :: F) ?_ ?_
  · intro _ a1
    try dsimp only
    refine J.seq ?_
    refine J.cut (σ := Unit) (fun _ => May2 c) (fun _ => [(3, .int .i64 c.kind), (1, .pointer (some ⟨b1, 0, none⟩))]) (fun _ => row b1 66 c.cells :: F) ?_ ?_
    · intro _ a2
      try dsimp only
      refine J.seq ?_
      refine J.cut (σ := Unit) (fun _ => May3 c) (fun _ => [(3, .int .i64 c.kind), (1, .pointer (some ⟨b1, 0, none⟩))]) (fun _ => row b1 66 c.cells :: F) ?_ ?_
      · intro _ a3
        try dsimp only
        refine J.seq ?_
        refine J.cut (σ := Unit) (fun _ => May4 c) (fun _ => [(3, .int .i64 c.kind), (1, .pointer (some ⟨b1, 0, none⟩))]) (fun _ => row b1 66 c.cells :: F) ?_ ?_
        · intro _ a4
          try dsimp only
          refine J.seq ?_
          refine J.seq ?_
          refine J.region ?_
          refine JL.pure rfl rfl (OpP.assign rfl) ?_
          refine JL.nil ?_
          refine J.block ?_
          refine J.loopI (fun j : Nat => c.hs.length - j) (fun j => j ≤ c.hs.length ∧ ∀ (m : Nat) (x : Hd), m < j → c.hs[m]? = some x → x.v.Fm) (fun j => [(4, .int .i64 (j : Nat)), (1, .pointer (some ⟨b1, 0, none⟩))])
            (fun _ => row b1 66 c.cells :: F) 0 ⟨Nat.zero_le _, fun _ _ h => absurd h (Nat.not_lt_zero _)⟩ (by repeat (first | exact SubEnv.nil | refine SubEnv.cons (by first | rfl | exact congrArg (fun z => some (Value.int .i64 z)) (by omega) | (simp; done)) ?_)) (fun _ h => h) (fun j hi back => ?_)
          try dsimp only at hi back ⊢
          obtain ⟨hj, hg⟩ := hi
          by_cases hlt : j < c.hs.length
          · obtain ⟨x, hxj⟩ : ∃ e, c.hs[j]? = some e := ⟨_, List.getElem?_eq_getElem hlt⟩
            have pb := fun (A : HProp) => refFormedV_ok (F := A :: F) (u := x.v) (hc.h.v x (List.mem_of_getElem? hxj)).sub
            obtain ⟨ga, pa, qa, ea, ka, hcs⟩ := hd1.pos (by omega)
            refine J.conv (l' := row b1 66 (c.cellsAt (.slice (some ⟨ga, pa, none⟩) c.hs.length qa)) :: F) (fun _ h => by rw [← ea]; exact h) ?_
            rw [ea] at hd1
            refine J.seq ?_
            refine J.seq ?_
            refine J.region ?_
            refine JL.pure rfl rfl (OpP.move rfl) ?_
            refine JL.pure rfl rfl (OpP.fieldAddr rfl) ?_
            refine JL.read rfl rfl (OpR.load1 rfl (Cell.row .head rfl)) ?_
            refine JL.pure rfl rfl (OpP.len rfl rfl) ?_
            refine JL.decT rfl rfl (OpP.lss rfl rfl) (by omega) ?_
            refine JL.nil ?_
            refine J.condT rfl ?_
            refine J.skip ?_
            refine J.seq ?_
            refine J.block ?_
            refine J.seq ?_
            refine J.region ?_
            refine JL.pure rfl rfl (OpP.fieldAddr rfl) ?_
            refine JL.read rfl rfl (OpR.load1 rfl (Cell.row .head rfl)) ?_
            refine JL.pure rfl rfl (OpP.move rfl) ?_
            refine JL.pure rfl rfl (OpP.indexAddr rfl rfl (by omega) (by omega)) ?_
            refine JL.pure rfl rfl (OpP.fieldAddr rfl) ?_
            refine JL.read rfl rfl (OpR.loadN rfl (by apply Cells.chunkSub (j := 2) (m := 4) hcs (fun _ h => Own.pick (pre := [_]) [] rfl h); (case' h => assumption); (case' hi => assumption); (case' hv => rfl); (case' ho => omega); done) (by rfl)) ?_
            refine JL.step rfl rfl (OpW.call (first := []) (captured := []) inferInstance rfl rfl (pb _)) ?_; rintro r156 _ ⟨b, ⟨rfl, ⟨rfl, h156⟩⟩⟩
            refine JL.pure rfl rfl (OpP.notB rfl) ?_
            refine JL.nil ?_
            refine J.splitAt 157 rfl (fun h157 => ?_) (fun h157 => ?_)
            focus
              refine J.condT rfl ?_
              refine J.seq ?_
              refine J.region ?_
              refine JL.pure rfl rfl (OpP.assign rfl) ?_
              refine JL.nil ?_
              refine J.ret1 rfl rfl ?_
            rotate_left 1
            focus
              refine J.condF rfl ?_
              refine J.skip ?_
              refine J.inBlock ?_
              refine J.region ?_
              refine JL.pure rfl rfl (OpP.move rfl) ?_
              refine JL.pure rfl rfl (OpP.addI rfl rfl (by omega) (by omega)) ?_
              refine JL.pure rfl rfl (OpP.assign rfl) ?_
              refine JL.nil ?_
            rotate_left 1
            · exact ⟨_, ⟨_, rfl, rfl, fun q => absurd q Bool.false_ne_true, fun q => by have := h156.2 (q.2.2.2.2 j x hxj); rw [this] at h157; cases h157⟩, fun _ h => h.tail⟩
            · have hxy : x.v.Fm := h156.1 (by cases b <;> first | rfl | cases h157)
              refine back (j + 1) ⟨by omega, fun m x' hm hx' => ?_⟩ (by omega) (by repeat (first | exact SubEnv.nil | refine SubEnv.cons (by first | rfl | exact congrArg (fun z => some (Value.int .i64 z)) (by omega) | (simp; done)) ?_)) (fun _ h => by rw [← ea] at h; exact h)
              rcases Nat.lt_or_ge m j with hmj | hmj
              · exact hg m x' hmj hx'
              · obtain rfl : m = j := by omega
                obtain rfl : x' = x := Option.some.inj (hx'.symm.trans hxj)
                exact hxy
          · refine J.seq ?_
            refine J.seq ?_
            refine J.region ?_
            refine JL.pure rfl rfl (OpP.move rfl) ?_
            refine JL.pure rfl rfl (OpP.fieldAddr rfl) ?_
            refine JL.read rfl rfl (OpR.load1 rfl (Cell.row .head rfl)) ?_
            refine JL.pure rfl rfl (OpP.len rfl rfl) ?_
            refine JL.decF rfl rfl (OpP.lss rfl rfl) (by omega) ?_
            refine JL.nil ?_
            refine J.condF rfl ?_
            refine J.exit rfl ?_
            refine J.seq ?_
            refine J.region ?_
            refine JL.pure rfl rfl (OpP.assign rfl) ?_
            refine JL.nil ?_
            refine J.ret1 rfl rfl ?_
            exact ⟨_, ⟨_, rfl, rfl, fun _ => ⟨a1, a2, a3, a4, fun m x hx => hg m x (by have := (List.getElem?_eq_some_iff.1 hx).1; omega) hx⟩, fun _ => rfl⟩, fun _ h => h.tail⟩
        intro k' back
        try dsimp only at back
        refine J.seq ?_
        refine J.region ?_
        refine JL.pure rfl rfl (OpP.fieldAddr rfl) ?_
        refine JL.read rfl rfl (OpR.load1 rfl (Cell.row .head rfl)) ?_
        refine JL.dec rfl rfl (OpP.lss rfl rfl) (fun h115 => ?_) (fun h115 => ?_)
        focus
          refine JL.pure rfl rfl (OpP.move rfl) ?_
          refine JL.skip rfl rfl ?_
          refine JL.skip rfl rfl ?_
          refine JL.skip rfl rfl ?_
          refine JL.skip rfl rfl ?_
          refine JL.skip rfl rfl ?_
          refine JL.skip rfl rfl ?_
          refine JL.skip rfl rfl ?_
          refine JL.pure rfl rfl (OpP.pickT rfl rfl) ?_
          refine JL.pure rfl rfl (OpP.move rfl) ?_
          refine JL.skip rfl rfl ?_
          refine JL.skip rfl rfl ?_
          refine JL.skip rfl rfl ?_
          refine JL.pure rfl rfl (OpP.pickT rfl rfl) ?_
          refine JL.pure rfl rfl (OpP.move rfl) ?_
          refine JL.skip rfl rfl ?_
          refine JL.skip rfl rfl ?_
          refine JL.skip rfl rfl ?_
          refine JL.skip rfl rfl ?_
          refine JL.pure rfl rfl (OpP.pickT rfl rfl) ?_
          refine JL.pure rfl rfl (OpP.move rfl) ?_
          refine JL.skip rfl rfl ?_
          refine JL.skip rfl rfl ?_
          refine JL.skip rfl rfl ?_
          refine JL.skip rfl rfl ?_
          refine JL.skip rfl rfl ?_
          refine JL.pure rfl rfl (OpP.pickT rfl rfl) ?_
          refine JL.nil ?_
          refine J.condT rfl ?_
          refine J.seq ?_
          refine J.region ?_
          refine JL.pure rfl rfl (OpP.assign rfl) ?_
          refine JL.nil ?_
          refine J.ret1 rfl rfl ?_
        rotate_left 1
        focus
          refine JL.pure rfl rfl (OpP.move rfl) ?_
          refine JL.pure rfl rfl (OpP.move rfl) ?_
          refine JL.dec rfl rfl (OpP.eql rfl rfl) (fun h118 => ?_) (fun h118 => ?_)
          focus
            refine JL.pure rfl rfl (OpP.move rfl) ?_
            refine JL.pure rfl rfl (OpP.fieldAddr rfl) ?_
            refine JL.read rfl rfl (OpR.load1 rfl (Cell.row .head rfl)) ?_
            refine JL.dec rfl rfl (OpP.gtr rfl rfl) (fun h122 => ?_) (fun h122 => ?_)
            focus
              refine JL.pure rfl rfl (OpP.pickT rfl rfl) ?_
              refine JL.pure rfl rfl (OpP.pickF rfl rfl) ?_
              refine JL.pure rfl rfl (OpP.move rfl) ?_
              refine JL.skip rfl rfl ?_
              refine JL.skip rfl rfl ?_
              refine JL.skip rfl rfl ?_
              refine JL.pure rfl rfl (OpP.pickT rfl rfl) ?_
              refine JL.pure rfl rfl (OpP.move rfl) ?_
              refine JL.skip rfl rfl ?_
              refine JL.skip rfl rfl ?_
              refine JL.skip rfl rfl ?_
              refine JL.skip rfl rfl ?_
              refine JL.pure rfl rfl (OpP.pickT rfl rfl) ?_
              refine JL.pure rfl rfl (OpP.move rfl) ?_
              refine JL.skip rfl rfl ?_
              refine JL.skip rfl rfl ?_
              refine JL.skip rfl rfl ?_
              refine JL.skip rfl rfl ?_
              refine JL.skip rfl rfl ?_
              refine JL.pure rfl rfl (OpP.pickT rfl rfl) ?_
              refine JL.nil ?_
              refine J.condT rfl ?_
              refine J.seq ?_
              refine J.region ?_
              refine JL.pure rfl rfl (OpP.assign rfl) ?_
              refine JL.nil ?_
              refine J.ret1 rfl rfl ?_
            rotate_left 1
            focus
              refine JL.pure rfl rfl (OpP.pickT rfl rfl) ?_
              refine JL.pure rfl rfl (OpP.pickF rfl rfl) ?_
              refine JL.pure rfl rfl (OpP.move rfl) ?_
              refine JL.pure rfl rfl (OpP.fieldAddr rfl) ?_
              refine JL.read rfl rfl (OpR.load1 rfl (Cell.row .head rfl)) ?_
              refine JL.decF rfl rfl (OpP.gtr rfl rfl) (by omega) ?_
              refine JL.pure rfl rfl (OpP.pickF rfl rfl) ?_
              refine JL.pure rfl rfl (OpP.move rfl) ?_
              refine JL.pure rfl rfl (OpP.fieldAddr rfl) ?_
              refine JL.read rfl rfl (OpR.load1 rfl (Cell.row .head rfl)) ?_
              refine JL.pure rfl rfl (OpP.len rfl rfl) ?_
              refine JL.dec rfl rfl (OpP.gtr rfl rfl) (fun h134 => ?_) (fun h134 => ?_)
              focus
                refine JL.pure rfl rfl (OpP.pickF rfl rfl) ?_
                refine JL.pure rfl rfl (OpP.move rfl) ?_
                refine JL.skip rfl rfl ?_
                refine JL.skip rfl rfl ?_
                refine JL.skip rfl rfl ?_
                refine JL.skip rfl rfl ?_
                refine JL.skip rfl rfl ?_
                refine JL.pure rfl rfl (OpP.pickT rfl rfl) ?_
                refine JL.nil ?_
                refine J.condT rfl ?_
                refine J.seq ?_
                refine J.region ?_
                refine JL.pure rfl rfl (OpP.assign rfl) ?_
                refine JL.nil ?_
                refine J.ret1 rfl rfl ?_
              rotate_left 1
              focus
                refine JL.pure rfl rfl (OpP.pickF rfl rfl) ?_
                refine JL.pure rfl rfl (OpP.move rfl) ?_
                refine JL.pure rfl rfl (OpP.fieldAddr rfl) ?_
                refine JL.pure rfl rfl (OpP.fieldAddr rfl) ?_
                refine JL.read rfl rfl (OpR.loadN rfl (Cells.sub 4 .head rfl) rfl) ?_
                refine JL.step rfl rfl (OpW.call (first := []) (captured := []) inferInstance rfl rfl (p2 _)) ?_; rintro r140 _ ⟨b, ⟨rfl, ⟨rfl, h140⟩⟩⟩
                refine JL.pure rfl rfl (OpP.notB rfl) ?_
                refine JL.pure rfl rfl (OpP.pickF rfl rfl) ?_
                refine JL.nil ?_
                refine J.splitAt 142 rfl (fun h142 => ?_) (fun h142 => ?_)
                focus
                  refine J.condT rfl ?_
                  refine J.seq ?_
                  refine J.region ?_
                  refine JL.pure rfl rfl (OpP.assign rfl) ?_
                  refine JL.nil ?_
                  refine J.ret1 rfl rfl ?_
                rotate_left 1
                focus
                  refine J.condF rfl ?_
                  refine J.skip ?_
                rotate_left 1
              rotate_left 2
            rotate_left 3
          rotate_left 4
          focus
            refine JL.pure rfl rfl (OpP.move rfl) ?_
            refine JL.skip rfl rfl ?_
            refine JL.skip rfl rfl ?_
            refine JL.skip rfl rfl ?_
            refine JL.pure rfl rfl (OpP.pickF rfl rfl) ?_
            refine JL.pure rfl rfl (OpP.pickF rfl rfl) ?_
            refine JL.pure rfl rfl (OpP.move rfl) ?_
            refine JL.pure rfl rfl (OpP.fieldAddr rfl) ?_
            refine JL.read rfl rfl (OpR.load1 rfl (Cell.row .head rfl)) ?_
            refine JL.dec rfl rfl (OpP.gtr rfl rfl) (fun h128 => ?_) (fun h128 => ?_)
            focus
              refine JL.pure rfl rfl (OpP.pickF rfl rfl) ?_
              refine JL.pure rfl rfl (OpP.move rfl) ?_
              refine JL.skip rfl rfl ?_
              refine JL.skip rfl rfl ?_
              refine JL.skip rfl rfl ?_
              refine JL.skip rfl rfl ?_
              refine JL.pure rfl rfl (OpP.pickT rfl rfl) ?_
              refine JL.pure rfl rfl (OpP.move rfl) ?_
              refine JL.skip rfl rfl ?_
              refine JL.skip rfl rfl ?_
              refine JL.skip rfl rfl ?_
              refine JL.skip rfl rfl ?_
              refine JL.skip rfl rfl ?_
              refine JL.pure rfl rfl (OpP.pickT rfl rfl) ?_
              refine JL.nil ?_
              refine J.condT rfl ?_
              refine J.seq ?_
              refine J.region ?_
              refine JL.pure rfl rfl (OpP.assign rfl) ?_
              refine JL.nil ?_
              refine J.ret1 rfl rfl ?_
            rotate_left 1
            focus
              refine JL.pure rfl rfl (OpP.pickF rfl rfl) ?_
              refine JL.pure rfl rfl (OpP.move rfl) ?_
              refine JL.pure rfl rfl (OpP.fieldAddr rfl) ?_
              refine JL.read rfl rfl (OpR.load1 rfl (Cell.row .head rfl)) ?_
              refine JL.pure rfl rfl (OpP.len rfl rfl) ?_
              refine JL.dec rfl rfl (OpP.gtr rfl rfl) (fun h134 => ?_) (fun h134 => ?_)
              focus
                refine JL.pure rfl rfl (OpP.pickF rfl rfl) ?_
                refine JL.pure rfl rfl (OpP.move rfl) ?_
                refine JL.skip rfl rfl ?_
                refine JL.skip rfl rfl ?_
                refine JL.skip rfl rfl ?_
                refine JL.skip rfl rfl ?_
                refine JL.skip rfl rfl ?_
                refine JL.pure rfl rfl (OpP.pickT rfl rfl) ?_
                refine JL.nil ?_
                refine J.condT rfl ?_
                refine J.seq ?_
                refine J.region ?_
                refine JL.pure rfl rfl (OpP.assign rfl) ?_
                refine JL.nil ?_
                refine J.ret1 rfl rfl ?_
              rotate_left 1
              focus
                refine JL.pure rfl rfl (OpP.pickF rfl rfl) ?_
                refine JL.pure rfl rfl (OpP.move rfl) ?_
                refine JL.pure rfl rfl (OpP.fieldAddr rfl) ?_
                refine JL.pure rfl rfl (OpP.fieldAddr rfl) ?_
                refine JL.read rfl rfl (OpR.loadN rfl (Cells.sub 4 .head rfl) rfl) ?_
                refine JL.step rfl rfl (OpW.call (first := []) (captured := []) inferInstance rfl rfl (p2 _)) ?_; rintro r140 _ ⟨b, ⟨rfl, ⟨rfl, h140⟩⟩⟩
                refine JL.pure rfl rfl (OpP.notB rfl) ?_
                refine JL.pure rfl rfl (OpP.pickF rfl rfl) ?_
                refine JL.nil ?_
                refine J.splitAt 142 rfl (fun h142 => ?_) (fun h142 => ?_)
                focus
                  refine J.condT rfl ?_
                  refine J.seq ?_
                  refine J.region ?_
                  refine JL.pure rfl rfl (OpP.assign rfl) ?_
                  refine JL.nil ?_
                  refine J.ret1 rfl rfl ?_
                rotate_left 1
                focus
                  refine J.condF rfl ?_
                  refine J.skip ?_
                rotate_left 1
              rotate_left 2
            rotate_left 3
          rotate_left 4
        rotate_left 8
        all_goals
          first
            | exact ⟨_, ⟨_, rfl, rfl, fun q => absurd q Bool.false_ne_true, fun q => by have q1 := q.2.2.2.1.1; have q2 := q.2.2.2.1.2.1; have q3 := q.2.2.2.1.2.2.1; have q4 := q.2.2.2.1.2.2.2.1; omega⟩, fun _ h => h.tail⟩
            | exact ⟨_, ⟨_, rfl, rfl, fun q => absurd q Bool.false_ne_true, fun q => by rw [h140.2 q.2.2.2.1.2.2.2.2] at h142; cases h142⟩, fun _ h => h.tail⟩
            | exact back () ⟨by omega, by omega, by omega, by omega, h140.1 (by cases b <;> first | rfl | cases h142)⟩ (by repeat (first | exact SubEnv.nil | refine SubEnv.cons (by first | rfl | exact congrArg (fun z => some (Value.int .i64 z)) (by omega) | (simp; done)) ?_)) (fun _ h => h)
      intro k' back
      try dsimp only at back
      refine J.seq ?_
      refine J.region ?_
      refine JL.pure rfl rfl (OpP.move rfl) ?_
      refine JL.dec rfl rfl (OpP.lss rfl rfl) (fun h91 => ?_) (fun h91 => ?_)
      focus
        refine JL.pure rfl rfl (OpP.move rfl) ?_
        refine JL.skip rfl rfl ?_
        refine JL.skip rfl rfl ?_
        refine JL.pure rfl rfl (OpP.pickT rfl rfl) ?_
        refine JL.pure rfl rfl (OpP.move rfl) ?_
        refine JL.pure rfl rfl (OpP.fieldAddr rfl) ?_
        refine JL.read rfl rfl (OpR.load1 rfl (Cell.row .head rfl)) ?_
        refine JL.pure rfl rfl (OpP.fieldAddr rfl) ?_
        refine JL.read rfl rfl (OpR.load1 rfl (Cell.row .head rfl)) ?_
        refine JL.pure rfl rfl (OpP.cat rfl rfl (by omega)) ?_
        refine JL.dec rfl rfl (OpP.neStr rfl rfl) (fun h102 => ?_) (fun h102 => ?_)
        focus
          refine JL.pure rfl rfl (OpP.pickT rfl rfl) ?_
          refine JL.pure rfl rfl (OpP.move rfl) ?_
          refine JL.skip rfl rfl ?_
          refine JL.skip rfl rfl ?_
          refine JL.skip rfl rfl ?_
          refine JL.skip rfl rfl ?_
          refine JL.skip rfl rfl ?_
          refine JL.skip rfl rfl ?_
          refine JL.skip rfl rfl ?_
          refine JL.pure rfl rfl (OpP.pickT rfl rfl) ?_
          refine JL.nil ?_
          refine J.condT rfl ?_
          refine J.seq ?_
          refine J.region ?_
          refine JL.pure rfl rfl (OpP.assign rfl) ?_
          refine JL.nil ?_
          refine J.ret1 rfl rfl ?_
        rotate_left 1
        focus
          refine JL.pure rfl rfl (OpP.pickT rfl rfl) ?_
          refine JL.pure rfl rfl (OpP.move rfl) ?_
          refine JL.pure rfl rfl (OpP.move rfl) ?_
          refine JL.decF rfl rfl (OpP.eql rfl rfl) (by omega) ?_
          refine JL.pure rfl rfl (OpP.move rfl) ?_
          refine JL.skip rfl rfl ?_
          refine JL.skip rfl rfl ?_
          refine JL.skip rfl rfl ?_
          refine JL.pure rfl rfl (OpP.pickF rfl rfl) ?_
          refine JL.pure rfl rfl (OpP.pickF rfl rfl) ?_
          refine JL.nil ?_
          refine J.condF rfl ?_
          refine J.skip ?_
        rotate_left 1
      rotate_left 2
      focus
        refine JL.pure rfl rfl (OpP.move rfl) ?_
        refine JL.pure rfl rfl (OpP.move rfl) ?_
        refine JL.dec rfl rfl (OpP.eql rfl rfl) (fun h94 => ?_) (fun h94 => ?_)
        focus
          refine JL.pure rfl rfl (OpP.pickF rfl rfl) ?_
          refine JL.pure rfl rfl (OpP.move rfl) ?_
          refine JL.pure rfl rfl (OpP.fieldAddr rfl) ?_
          refine JL.read rfl rfl (OpR.load1 rfl (Cell.row .head rfl)) ?_
          refine JL.pure rfl rfl (OpP.fieldAddr rfl) ?_
          refine JL.read rfl rfl (OpR.load1 rfl (Cell.row .head rfl)) ?_
          refine JL.pure rfl rfl (OpP.cat rfl rfl (by omega)) ?_
          refine JL.dec rfl rfl (OpP.neStr rfl rfl) (fun h102 => ?_) (fun h102 => ?_)
          focus
            refine JL.pure rfl rfl (OpP.pickT rfl rfl) ?_
            refine JL.pure rfl rfl (OpP.move rfl) ?_
            refine JL.skip rfl rfl ?_
            refine JL.skip rfl rfl ?_
            refine JL.skip rfl rfl ?_
            refine JL.skip rfl rfl ?_
            refine JL.skip rfl rfl ?_
            refine JL.skip rfl rfl ?_
            refine JL.skip rfl rfl ?_
            refine JL.pure rfl rfl (OpP.pickT rfl rfl) ?_
            refine JL.nil ?_
            refine J.condT rfl ?_
            refine J.seq ?_
            refine J.region ?_
            refine JL.pure rfl rfl (OpP.assign rfl) ?_
            refine JL.nil ?_
            refine J.ret1 rfl rfl ?_
          rotate_left 1
          focus
            refine JL.pure rfl rfl (OpP.pickT rfl rfl) ?_
            refine JL.pure rfl rfl (OpP.move rfl) ?_
            refine JL.pure rfl rfl (OpP.move rfl) ?_
            refine JL.decF rfl rfl (OpP.eql rfl rfl) (by omega) ?_
            refine JL.pure rfl rfl (OpP.move rfl) ?_
            refine JL.skip rfl rfl ?_
            refine JL.skip rfl rfl ?_
            refine JL.skip rfl rfl ?_
            refine JL.pure rfl rfl (OpP.pickF rfl rfl) ?_
            refine JL.pure rfl rfl (OpP.pickF rfl rfl) ?_
            refine JL.nil ?_
            refine J.condF rfl ?_
            refine J.skip ?_
          rotate_left 1
        rotate_left 2
        focus
          refine JL.pure rfl rfl (OpP.pickF rfl rfl) ?_
          refine JL.pure rfl rfl (OpP.move rfl) ?_
          refine JL.skip rfl rfl ?_
          refine JL.skip rfl rfl ?_
          refine JL.skip rfl rfl ?_
          refine JL.skip rfl rfl ?_
          refine JL.skip rfl rfl ?_
          refine JL.skip rfl rfl ?_
          refine JL.pure rfl rfl (OpP.pickF rfl rfl) ?_
          refine JL.pure rfl rfl (OpP.move rfl) ?_
          refine JL.pure rfl rfl (OpP.move rfl) ?_
          refine JL.dec rfl rfl (OpP.eql rfl rfl) (fun h106 => ?_) (fun h106 => ?_)
          focus
            refine JL.pure rfl rfl (OpP.move rfl) ?_
            refine JL.pure rfl rfl (OpP.fieldAddr rfl) ?_
            refine JL.read rfl rfl (OpR.load1 rfl (Cell.row .head rfl)) ?_
            refine JL.dec rfl rfl (OpP.neStr rfl rfl) (fun h110 => ?_) (fun h110 => ?_)
            focus
              refine JL.pure rfl rfl (OpP.pickT rfl rfl) ?_
              refine JL.pure rfl rfl (OpP.pickF rfl rfl) ?_
              refine JL.nil ?_
              refine J.condT rfl ?_
              refine J.seq ?_
              refine J.region ?_
              refine JL.pure rfl rfl (OpP.assign rfl) ?_
              refine JL.nil ?_
              refine J.ret1 rfl rfl ?_
            rotate_left 1
            focus
              refine JL.pure rfl rfl (OpP.pickT rfl rfl) ?_
              refine JL.pure rfl rfl (OpP.pickF rfl rfl) ?_
              refine JL.nil ?_
              refine J.condF rfl ?_
              refine J.skip ?_
            rotate_left 1
          rotate_left 2
          focus
            refine JL.pure rfl rfl (OpP.move rfl) ?_
            refine JL.skip rfl rfl ?_
            refine JL.skip rfl rfl ?_
            refine JL.skip rfl rfl ?_
            refine JL.pure rfl rfl (OpP.pickF rfl rfl) ?_
            refine JL.pure rfl rfl (OpP.pickF rfl rfl) ?_
            refine JL.nil ?_
            refine J.condF rfl ?_
            refine J.skip ?_
          rotate_left 1
        rotate_left 3
      rotate_left 5
      all_goals
        try rw [ne_eq, strB_nil, List.length_append] at h102
        try rw [ne_eq, strB_nil] at h110
        first
          | exact ⟨_, ⟨_, rfl, rfl, fun q => absurd q Bool.false_ne_true, fun q => by have q1 := q.2.2.1.1; have q2 := q.2.2.1.2; omega⟩, fun _ h => h.tail⟩
          | exact back () ⟨by omega, by omega⟩ (by repeat (first | exact SubEnv.nil | refine SubEnv.cons (by first | rfl | exact congrArg (fun z => some (Value.int .i64 z)) (by omega) | (simp; done)) ?_)) (fun _ h => h)
    intro k' back
    try dsimp only at back
    refine J.seq ?_
    refine J.region ?_
    refine JL.pure rfl rfl (OpP.move rfl) ?_
    refine JL.dec rfl rfl (OpP.neq rfl rfl) (fun h59 => ?_) (fun h59 => ?_)
    focus
      refine JL.pure rfl rfl (OpP.move rfl) ?_
      refine JL.pure rfl rfl (OpP.move rfl) ?_
      refine JL.dec rfl rfl (OpP.neq rfl rfl) (fun h62 => ?_) (fun h62 => ?_)
      focus
        refine JL.pure rfl rfl (OpP.pickT rfl rfl) ?_
        refine JL.pure rfl rfl (OpP.move rfl) ?_
        refine JL.pure rfl rfl (OpP.fieldAddr rfl) ?_
        refine JL.pure rfl rfl (OpP.fieldAddr rfl) ?_
        refine JL.read rfl rfl (OpR.load1 rfl (Cell.row .head rfl)) ?_
        refine JL.pure rfl rfl (OpP.fieldAddr rfl) ?_
        refine JL.pure rfl rfl (OpP.fieldAddr rfl) ?_
        refine JL.read rfl rfl (OpR.load1 rfl (Cell.row .head rfl)) ?_
        refine JL.pure rfl rfl (OpP.cat rfl rfl (by omega)) ?_
        refine JL.pure rfl rfl (OpP.fieldAddr rfl) ?_
        refine JL.pure rfl rfl (OpP.fieldAddr rfl) ?_
        refine JL.read rfl rfl (OpR.load1 rfl (Cell.row .head rfl)) ?_
        refine JL.pure rfl rfl (OpP.cat rfl rfl (by simp only [List.length_append]; omega)) ?_
        refine JL.dec rfl rfl (OpP.neStr rfl rfl) (fun h76 => ?_) (fun h76 => ?_)
        focus
          refine JL.pure rfl rfl (OpP.pickT rfl rfl) ?_
          refine JL.pure rfl rfl (OpP.move rfl) ?_
          refine JL.skip rfl rfl ?_
          refine JL.skip rfl rfl ?_
          refine JL.skip rfl rfl ?_
          refine JL.skip rfl rfl ?_
          refine JL.skip rfl rfl ?_
          refine JL.skip rfl rfl ?_
          refine JL.skip rfl rfl ?_
          refine JL.skip rfl rfl ?_
          refine JL.skip rfl rfl ?_
          refine JL.skip rfl rfl ?_
          refine JL.pure rfl rfl (OpP.pickT rfl rfl) ?_
          refine JL.nil ?_
          refine J.condT rfl ?_
          refine J.seq ?_
          refine J.region ?_
          refine JL.pure rfl rfl (OpP.assign rfl) ?_
          refine JL.nil ?_
          refine J.ret1 rfl rfl ?_
        rotate_left 1
        focus
          refine JL.pure rfl rfl (OpP.pickT rfl rfl) ?_
          refine JL.pure rfl rfl (OpP.move rfl) ?_
          refine JL.pure rfl rfl (OpP.move rfl) ?_
          refine JL.decT rfl rfl (OpP.neq rfl rfl) (by omega) ?_
          refine JL.pure rfl rfl (OpP.move rfl) ?_
          refine JL.pure rfl rfl (OpP.fieldAddr rfl) ?_
          refine JL.pure rfl rfl (OpP.fieldAddr rfl) ?_
          refine JL.read rfl rfl (OpR.loadN rfl (Cells.sub 4 .head rfl) rfl) ?_
          refine JL.pure rfl rfl (OpP.build rfl (by (repeat (first | exact Fills.nil | (apply Fills.cons rfl rfl rfl; (case' hs => ((repeat (first | exact Spl.nil | apply Spl.here | apply Spl.there)); done))))))) ?_
          refine JL.step rfl rfl (OpW.call (first := []) (captured := []) inferInstance rfl rfl (p1 _)) ?_; rintro r86 _ ⟨b, ⟨rfl, ⟨rfl, h86⟩⟩⟩
          refine JL.pure rfl rfl (OpP.notB rfl) ?_
          refine JL.pure rfl rfl (OpP.pickT rfl rfl) ?_
          refine JL.pure rfl rfl (OpP.pickF rfl rfl) ?_
          refine JL.nil ?_
          refine J.splitAt 89 rfl (fun h89 => ?_) (fun h89 => ?_)
          focus
            refine J.condT rfl ?_
            refine J.seq ?_
            refine J.region ?_
            refine JL.pure rfl rfl (OpP.assign rfl) ?_
            refine JL.nil ?_
            refine J.ret1 rfl rfl ?_
          rotate_left 1
          focus
            refine J.condF rfl ?_
            refine J.skip ?_
          rotate_left 1
        rotate_left 2
      rotate_left 3
      focus
        refine JL.pure rfl rfl (OpP.pickT rfl rfl) ?_
        refine JL.pure rfl rfl (OpP.move rfl) ?_
        refine JL.skip rfl rfl ?_
        refine JL.skip rfl rfl ?_
        refine JL.skip rfl rfl ?_
        refine JL.skip rfl rfl ?_
        refine JL.skip rfl rfl ?_
        refine JL.skip rfl rfl ?_
        refine JL.skip rfl rfl ?_
        refine JL.skip rfl rfl ?_
        refine JL.skip rfl rfl ?_
        refine JL.skip rfl rfl ?_
        refine JL.skip rfl rfl ?_
        refine JL.skip rfl rfl ?_
        refine JL.pure rfl rfl (OpP.pickF rfl rfl) ?_
        refine JL.pure rfl rfl (OpP.move rfl) ?_
        refine JL.pure rfl rfl (OpP.move rfl) ?_
        refine JL.decT rfl rfl (OpP.neq rfl rfl) (by omega) ?_
        refine JL.pure rfl rfl (OpP.move rfl) ?_
        refine JL.pure rfl rfl (OpP.fieldAddr rfl) ?_
        refine JL.pure rfl rfl (OpP.fieldAddr rfl) ?_
        refine JL.read rfl rfl (OpR.loadN rfl (Cells.sub 4 .head rfl) rfl) ?_
        refine JL.pure rfl rfl (OpP.build rfl (by (repeat (first | exact Fills.nil | (apply Fills.cons rfl rfl rfl; (case' hs => ((repeat (first | exact Spl.nil | apply Spl.here | apply Spl.there)); done))))))) ?_
        refine JL.step rfl rfl (OpW.call (first := []) (captured := []) inferInstance rfl rfl (p1 _)) ?_; rintro r86 _ ⟨b, ⟨rfl, ⟨rfl, h86⟩⟩⟩
        refine JL.pure rfl rfl (OpP.notB rfl) ?_
        refine JL.pure rfl rfl (OpP.pickT rfl rfl) ?_
        refine JL.pure rfl rfl (OpP.pickF rfl rfl) ?_
        refine JL.nil ?_
        refine J.splitAt 89 rfl (fun h89 => ?_) (fun h89 => ?_)
        focus
          refine J.condT rfl ?_
          refine J.seq ?_
          refine J.region ?_
          refine JL.pure rfl rfl (OpP.assign rfl) ?_
          refine JL.nil ?_
          refine J.ret1 rfl rfl ?_
        rotate_left 1
        focus
          refine J.condF rfl ?_
          refine J.skip ?_
        rotate_left 1
      rotate_left 2
    rotate_left 5
    focus
      refine JL.pure rfl rfl (OpP.move rfl) ?_
      refine JL.skip rfl rfl ?_
      refine JL.skip rfl rfl ?_
      refine JL.pure rfl rfl (OpP.pickF rfl rfl) ?_
      refine JL.pure rfl rfl (OpP.move rfl) ?_
      refine JL.skip rfl rfl ?_
      refine JL.skip rfl rfl ?_
      refine JL.skip rfl rfl ?_
      refine JL.skip rfl rfl ?_
      refine JL.skip rfl rfl ?_
      refine JL.skip rfl rfl ?_
      refine JL.skip rfl rfl ?_
      refine JL.skip rfl rfl ?_
      refine JL.skip rfl rfl ?_
      refine JL.skip rfl rfl ?_
      refine JL.skip rfl rfl ?_
      refine JL.skip rfl rfl ?_
      refine JL.pure rfl rfl (OpP.pickF rfl rfl) ?_
      refine JL.pure rfl rfl (OpP.move rfl) ?_
      refine JL.pure rfl rfl (OpP.move rfl) ?_
      refine JL.decF rfl rfl (OpP.neq rfl rfl) (by omega) ?_
      refine JL.pure rfl rfl (OpP.move rfl) ?_
      refine JL.skip rfl rfl ?_
      refine JL.skip rfl rfl ?_
      refine JL.skip rfl rfl ?_
      refine JL.skip rfl rfl ?_
      refine JL.skip rfl rfl ?_
      refine JL.skip rfl rfl ?_
      refine JL.pure rfl rfl (OpP.pickF rfl rfl) ?_
      refine JL.pure rfl rfl (OpP.pickF rfl rfl) ?_
      refine JL.nil ?_
      refine J.condF rfl ?_
      refine J.skip ?_
    rotate_left 1
    all_goals
      try rw [ne_eq, strB_nil, List.length_append, List.length_append] at h76
      first
        | exact ⟨_, ⟨_, rfl, rfl, fun q => absurd q Bool.false_ne_true, fun q => by have q1 := q.2.1.1; omega⟩, fun _ h => h.tail⟩
        | exact ⟨_, ⟨_, rfl, rfl, fun q => absurd q Bool.false_ne_true, fun q => by rcases q.2.1.2 with q2 | q2 <;> first | omega | (rw [h86.2 q2] at h89; cases h89)⟩, fun _ h => h.tail⟩
        | exact back () ⟨by omega, .inl (by omega)⟩ (by repeat (first | exact SubEnv.nil | refine SubEnv.cons (by first | rfl | exact congrArg (fun z => some (Value.int .i64 z)) (by omega) | (simp; done)) ?_)) (fun _ h => h)
        | exact back () ⟨by omega, .inr (h86.1 (by cases b <;> first | rfl | cases h89))⟩ (by repeat (first | exact SubEnv.nil | refine SubEnv.cons (by first | rfl | exact congrArg (fun z => some (Value.int .i64 z)) (by omega) | (simp; done)) ?_)) (fun _ h => h)
  intro k' back
  try dsimp only at back
  refine J.seq ?_
  refine J.region ?_
  refine JL.pure rfl rfl (OpP.move rfl) ?_
  refine JL.dec rfl rfl (OpP.lss rfl rfl) (fun h8 => ?_) (fun h8 => ?_)
  focus
    refine JL.pure rfl rfl (OpP.move rfl) ?_
    refine JL.skip rfl rfl ?_
    refine JL.skip rfl rfl ?_
    refine JL.pure rfl rfl (OpP.pickT rfl rfl) ?_
    refine JL.pure rfl rfl (OpP.move rfl) ?_
    refine JL.skip rfl rfl ?_
    refine JL.skip rfl rfl ?_
    refine JL.skip rfl rfl ?_
    refine JL.skip rfl rfl ?_
    refine JL.skip rfl rfl ?_
    refine JL.skip rfl rfl ?_
    refine JL.skip rfl rfl ?_
    refine JL.pure rfl rfl (OpP.pickT rfl rfl) ?_
    refine JL.pure rfl rfl (OpP.move rfl) ?_
    refine JL.skip rfl rfl ?_
    refine JL.skip rfl rfl ?_
    refine JL.skip rfl rfl ?_
    refine JL.skip rfl rfl ?_
    refine JL.skip rfl rfl ?_
    refine JL.skip rfl rfl ?_
    refine JL.skip rfl rfl ?_
    refine JL.skip rfl rfl ?_
    refine JL.skip rfl rfl ?_
    refine JL.skip rfl rfl ?_
    refine JL.skip rfl rfl ?_
    refine JL.pure rfl rfl (OpP.pickT rfl rfl) ?_
    refine JL.pure rfl rfl (OpP.move rfl) ?_
    refine JL.skip rfl rfl ?_
    refine JL.skip rfl rfl ?_
    refine JL.skip rfl rfl ?_
    refine JL.skip rfl rfl ?_
    refine JL.skip rfl rfl ?_
    refine JL.skip rfl rfl ?_
    refine JL.skip rfl rfl ?_
    refine JL.skip rfl rfl ?_
    refine JL.skip rfl rfl ?_
    refine JL.skip rfl rfl ?_
    refine JL.skip rfl rfl ?_
    refine JL.pure rfl rfl (OpP.pickT rfl rfl) ?_
    refine JL.pure rfl rfl (OpP.move rfl) ?_
    refine JL.skip rfl rfl ?_
    refine JL.skip rfl rfl ?_
    refine JL.skip rfl rfl ?_
    refine JL.skip rfl rfl ?_
    refine JL.skip rfl rfl ?_
    refine JL.skip rfl rfl ?_
    refine JL.skip rfl rfl ?_
    refine JL.skip rfl rfl ?_
    refine JL.pure rfl rfl (OpP.pickT rfl rfl) ?_
    refine JL.nil ?_
    refine J.condT rfl ?_
    refine J.seq ?_
    refine J.region ?_
    refine JL.pure rfl rfl (OpP.assign rfl) ?_
    refine JL.nil ?_
    refine J.ret1 rfl rfl ?_
  rotate_left 1
  focus
    refine JL.pure rfl rfl (OpP.move rfl) ?_
    refine JL.pure rfl rfl (OpP.move rfl) ?_
    refine JL.dec rfl rfl (OpP.gtr rfl rfl) (fun h11 => ?_) (fun h11 => ?_)
    focus
      refine JL.pure rfl rfl (OpP.pickF rfl rfl) ?_
      refine JL.pure rfl rfl (OpP.move rfl) ?_
      refine JL.skip rfl rfl ?_
      refine JL.skip rfl rfl ?_
      refine JL.skip rfl rfl ?_
      refine JL.skip rfl rfl ?_
      refine JL.skip rfl rfl ?_
      refine JL.skip rfl rfl ?_
      refine JL.skip rfl rfl ?_
      refine JL.pure rfl rfl (OpP.pickT rfl rfl) ?_
      refine JL.pure rfl rfl (OpP.move rfl) ?_
      refine JL.skip rfl rfl ?_
      refine JL.skip rfl rfl ?_
      refine JL.skip rfl rfl ?_
      refine JL.skip rfl rfl ?_
      refine JL.skip rfl rfl ?_
      refine JL.skip rfl rfl ?_
      refine JL.skip rfl rfl ?_
      refine JL.skip rfl rfl ?_
      refine JL.skip rfl rfl ?_
      refine JL.skip rfl rfl ?_
      refine JL.skip rfl rfl ?_
      refine JL.pure rfl rfl (OpP.pickT rfl rfl) ?_
      refine JL.pure rfl rfl (OpP.move rfl) ?_
      refine JL.skip rfl rfl ?_
      refine JL.skip rfl rfl ?_
      refine JL.skip rfl rfl ?_
      refine JL.skip rfl rfl ?_
      refine JL.skip rfl rfl ?_
      refine JL.skip rfl rfl ?_
      refine JL.skip rfl rfl ?_
      refine JL.skip rfl rfl ?_
      refine JL.skip rfl rfl ?_
      refine JL.skip rfl rfl ?_
      refine JL.skip rfl rfl ?_
      refine JL.pure rfl rfl (OpP.pickT rfl rfl) ?_
      refine JL.pure rfl rfl (OpP.move rfl) ?_
      refine JL.skip rfl rfl ?_
      refine JL.skip rfl rfl ?_
      refine JL.skip rfl rfl ?_
      refine JL.skip rfl rfl ?_
      refine JL.skip rfl rfl ?_
      refine JL.skip rfl rfl ?_
      refine JL.skip rfl rfl ?_
      refine JL.skip rfl rfl ?_
      refine JL.pure rfl rfl (OpP.pickT rfl rfl) ?_
      refine JL.nil ?_
      refine J.condT rfl ?_
      refine J.seq ?_
      refine J.region ?_
      refine JL.pure rfl rfl (OpP.assign rfl) ?_
      refine JL.nil ?_
      refine J.ret1 rfl rfl ?_
    rotate_left 1
    focus
      refine JL.pure rfl rfl (OpP.pickF rfl rfl) ?_
      refine JL.pure rfl rfl (OpP.move rfl) ?_
      refine JL.pure rfl rfl (OpP.move rfl) ?_
      refine JL.dec rfl rfl (OpP.neq rfl rfl) (fun h15 => ?_) (fun h15 => ?_)
      focus
        refine JL.pure rfl rfl (OpP.move rfl) ?_
        refine JL.pure rfl rfl (OpP.fieldAddr rfl) ?_
        refine JL.read rfl rfl (OpR.load1 rfl (Cell.row .head rfl)) ?_
        refine JL.dec rfl rfl (OpP.neStr rfl rfl) (fun h19 => ?_) (fun h19 => ?_)
        focus
          refine JL.pure rfl rfl (OpP.pickT rfl rfl) ?_
          refine JL.pure rfl rfl (OpP.pickF rfl rfl) ?_
          refine JL.pure rfl rfl (OpP.move rfl) ?_
          refine JL.skip rfl rfl ?_
          refine JL.skip rfl rfl ?_
          refine JL.skip rfl rfl ?_
          refine JL.skip rfl rfl ?_
          refine JL.skip rfl rfl ?_
          refine JL.skip rfl rfl ?_
          refine JL.skip rfl rfl ?_
          refine JL.skip rfl rfl ?_
          refine JL.skip rfl rfl ?_
          refine JL.skip rfl rfl ?_
          refine JL.skip rfl rfl ?_
          refine JL.pure rfl rfl (OpP.pickT rfl rfl) ?_
          refine JL.pure rfl rfl (OpP.move rfl) ?_
          refine JL.skip rfl rfl ?_
          refine JL.skip rfl rfl ?_
          refine JL.skip rfl rfl ?_
          refine JL.skip rfl rfl ?_
          refine JL.skip rfl rfl ?_
          refine JL.skip rfl rfl ?_
          refine JL.skip rfl rfl ?_
          refine JL.skip rfl rfl ?_
          refine JL.skip rfl rfl ?_
          refine JL.skip rfl rfl ?_
          refine JL.skip rfl rfl ?_
          refine JL.pure rfl rfl (OpP.pickT rfl rfl) ?_
          refine JL.pure rfl rfl (OpP.move rfl) ?_
          refine JL.skip rfl rfl ?_
          refine JL.skip rfl rfl ?_
          refine JL.skip rfl rfl ?_
          refine JL.skip rfl rfl ?_
          refine JL.skip rfl rfl ?_
          refine JL.skip rfl rfl ?_
          refine JL.skip rfl rfl ?_
          refine JL.skip rfl rfl ?_
          refine JL.pure rfl rfl (OpP.pickT rfl rfl) ?_
          refine JL.nil ?_
          refine J.condT rfl ?_
          refine J.seq ?_
          refine J.region ?_
          refine JL.pure rfl rfl (OpP.assign rfl) ?_
          refine JL.nil ?_
          refine J.ret1 rfl rfl ?_
        rotate_left 1
        focus
          refine JL.pure rfl rfl (OpP.pickT rfl rfl) ?_
          refine JL.pure rfl rfl (OpP.pickF rfl rfl) ?_
          refine JL.pure rfl rfl (OpP.move rfl) ?_
          refine JL.pure rfl rfl (OpP.move rfl) ?_
          refine JL.dec rfl rfl (OpP.neq rfl rfl) (fun h24 => ?_) (fun h24 => ?_)
          focus
            refine JL.pure rfl rfl (OpP.move rfl) ?_
            refine JL.pure rfl rfl (OpP.move rfl) ?_
            refine JL.dec rfl rfl (OpP.neq rfl rfl) (fun h27 => ?_) (fun h27 => ?_)
            focus
              refine JL.pure rfl rfl (OpP.pickT rfl rfl) ?_
              refine JL.pure rfl rfl (OpP.move rfl) ?_
              refine JL.pure rfl rfl (OpP.fieldAddr rfl) ?_
              refine JL.read rfl rfl (OpR.load1 rfl (Cell.row .head rfl)) ?_
              refine JL.dec rfl rfl (OpP.neq rfl rfl) (fun h32 => ?_) (fun h32 => ?_)
              focus
                refine JL.pure rfl rfl (OpP.pickT rfl rfl) ?_
                refine JL.pure rfl rfl (OpP.pickF rfl rfl) ?_
                refine JL.pure rfl rfl (OpP.move rfl) ?_
                refine JL.skip rfl rfl ?_
                refine JL.skip rfl rfl ?_
                refine JL.skip rfl rfl ?_
                refine JL.skip rfl rfl ?_
                refine JL.skip rfl rfl ?_
                refine JL.skip rfl rfl ?_
                refine JL.skip rfl rfl ?_
                refine JL.skip rfl rfl ?_
                refine JL.skip rfl rfl ?_
                refine JL.skip rfl rfl ?_
                refine JL.skip rfl rfl ?_
                refine JL.pure rfl rfl (OpP.pickT rfl rfl) ?_
                refine JL.pure rfl rfl (OpP.move rfl) ?_
                refine JL.skip rfl rfl ?_
                refine JL.skip rfl rfl ?_
                refine JL.skip rfl rfl ?_
                refine JL.skip rfl rfl ?_
                refine JL.skip rfl rfl ?_
                refine JL.skip rfl rfl ?_
                refine JL.skip rfl rfl ?_
                refine JL.skip rfl rfl ?_
                refine JL.pure rfl rfl (OpP.pickT rfl rfl) ?_
                refine JL.nil ?_
                refine J.condT rfl ?_
                refine J.seq ?_
                refine J.region ?_
                refine JL.pure rfl rfl (OpP.assign rfl) ?_
                refine JL.nil ?_
                refine J.ret1 rfl rfl ?_
              rotate_left 1
              focus
                refine JL.pure rfl rfl (OpP.pickT rfl rfl) ?_
                refine JL.pure rfl rfl (OpP.pickF rfl rfl) ?_
                refine JL.pure rfl rfl (OpP.move rfl) ?_
                refine JL.pure rfl rfl (OpP.move rfl) ?_
                refine JL.decT rfl rfl (OpP.neq rfl rfl) (by omega) ?_
                refine JL.pure rfl rfl (OpP.move rfl) ?_
                refine JL.pure rfl rfl (OpP.move rfl) ?_
                refine JL.dec rfl rfl (OpP.neq rfl rfl) (fun h40 => ?_) (fun h40 => ?_)
                focus
                  refine JL.pure rfl rfl (OpP.pickT rfl rfl) ?_
                  refine JL.pure rfl rfl (OpP.move rfl) ?_
                  refine JL.pure rfl rfl (OpP.fieldAddr rfl) ?_
                  refine JL.read rfl rfl (OpR.load1 rfl (Cell.row .head rfl)) ?_
                  refine JL.dec rfl rfl (OpP.neq rfl rfl) (fun h45 => ?_) (fun h45 => ?_)
                  focus
                    refine JL.pure rfl rfl (OpP.pickT rfl rfl) ?_
                    refine JL.pure rfl rfl (OpP.pickF rfl rfl) ?_
                    refine JL.pure rfl rfl (OpP.move rfl) ?_
                    refine JL.skip rfl rfl ?_
                    refine JL.skip rfl rfl ?_
                    refine JL.skip rfl rfl ?_
                    refine JL.skip rfl rfl ?_
                    refine JL.skip rfl rfl ?_
                    refine JL.skip rfl rfl ?_
                    refine JL.skip rfl rfl ?_
                    refine JL.skip rfl rfl ?_
                    refine JL.pure rfl rfl (OpP.pickT rfl rfl) ?_
                    refine JL.nil ?_
                    refine J.condT rfl ?_
                    refine J.seq ?_
                    refine J.region ?_
                    refine JL.pure rfl rfl (OpP.assign rfl) ?_
                    refine JL.nil ?_
                    refine J.ret1 rfl rfl ?_
                  rotate_left 1
                  focus
                    refine JL.pure rfl rfl (OpP.pickT rfl rfl) ?_
                    refine JL.pure rfl rfl (OpP.pickF rfl rfl) ?_
                    refine JL.pure rfl rfl (OpP.move rfl) ?_
                    refine JL.pure rfl rfl (OpP.move rfl) ?_
                    refine JL.dec rfl rfl (OpP.neq rfl rfl) (fun h50 => ?_) (fun h50 => ?_)
                    focus
                      refine JL.pure rfl rfl (OpP.move rfl) ?_
                      refine JL.pure rfl rfl (OpP.fieldAddr rfl) ?_
                      refine JL.read rfl rfl (OpR.load1 rfl (Cell.row .head rfl)) ?_
                      refine JL.pure rfl rfl (OpP.len rfl rfl) ?_
                      refine JL.dec rfl rfl (OpP.gtr rfl rfl) (fun h55 => ?_) (fun h55 => ?_)
                      focus
                        refine JL.pure rfl rfl (OpP.pickT rfl rfl) ?_
                        refine JL.pure rfl rfl (OpP.pickF rfl rfl) ?_
                        refine JL.nil ?_
                        refine J.condT rfl ?_
                        refine J.seq ?_
                        refine J.region ?_
                        refine JL.pure rfl rfl (OpP.assign rfl) ?_
                        refine JL.nil ?_
                        refine J.ret1 rfl rfl ?_
                      rotate_left 1
                      focus
                        refine JL.pure rfl rfl (OpP.pickT rfl rfl) ?_
                        refine JL.pure rfl rfl (OpP.pickF rfl rfl) ?_
                        refine JL.nil ?_
                        refine J.condF rfl ?_
                        refine J.skip ?_
                      rotate_left 1
                    rotate_left 2
                    focus
                      refine JL.pure rfl rfl (OpP.move rfl) ?_
                      refine JL.skip rfl rfl ?_
                      refine JL.skip rfl rfl ?_
                      refine JL.skip rfl rfl ?_
                      refine JL.skip rfl rfl ?_
                      refine JL.pure rfl rfl (OpP.pickF rfl rfl) ?_
                      refine JL.pure rfl rfl (OpP.pickF rfl rfl) ?_
                      refine JL.nil ?_
                      refine J.condF rfl ?_
                      refine J.skip ?_
                    rotate_left 1
                  rotate_left 3
                rotate_left 4
                focus
                  refine JL.pure rfl rfl (OpP.pickT rfl rfl) ?_
                  refine JL.pure rfl rfl (OpP.move rfl) ?_
                  refine JL.skip rfl rfl ?_
                  refine JL.skip rfl rfl ?_
                  refine JL.skip rfl rfl ?_
                  refine JL.pure rfl rfl (OpP.pickF rfl rfl) ?_
                  refine JL.pure rfl rfl (OpP.pickF rfl rfl) ?_
                  refine JL.pure rfl rfl (OpP.move rfl) ?_
                  refine JL.pure rfl rfl (OpP.move rfl) ?_
                  refine JL.decT rfl rfl (OpP.neq rfl rfl) (by omega) ?_
                  refine JL.pure rfl rfl (OpP.move rfl) ?_
                  refine JL.pure rfl rfl (OpP.fieldAddr rfl) ?_
                  refine JL.read rfl rfl (OpR.load1 rfl (Cell.row .head rfl)) ?_
                  refine JL.pure rfl rfl (OpP.len rfl rfl) ?_
                  refine JL.dec rfl rfl (OpP.gtr rfl rfl) (fun h55 => ?_) (fun h55 => ?_)
                  focus
                    refine JL.pure rfl rfl (OpP.pickT rfl rfl) ?_
                    refine JL.pure rfl rfl (OpP.pickF rfl rfl) ?_
                    refine JL.nil ?_
                    refine J.condT rfl ?_
                    refine J.seq ?_
                    refine J.region ?_
                    refine JL.pure rfl rfl (OpP.assign rfl) ?_
                    refine JL.nil ?_
                    refine J.ret1 rfl rfl ?_
                  rotate_left 1
                  focus
                    refine JL.pure rfl rfl (OpP.pickT rfl rfl) ?_
                    refine JL.pure rfl rfl (OpP.pickF rfl rfl) ?_
                    refine JL.nil ?_
                    refine J.condF rfl ?_
                    refine J.skip ?_
                  rotate_left 1
                rotate_left 2
              rotate_left 6
            rotate_left 7
            focus
              refine JL.pure rfl rfl (OpP.pickT rfl rfl) ?_
              refine JL.pure rfl rfl (OpP.move rfl) ?_
              refine JL.skip rfl rfl ?_
              refine JL.skip rfl rfl ?_
              refine JL.skip rfl rfl ?_
              refine JL.pure rfl rfl (OpP.pickF rfl rfl) ?_
              refine JL.pure rfl rfl (OpP.pickF rfl rfl) ?_
              refine JL.pure rfl rfl (OpP.move rfl) ?_
              refine JL.pure rfl rfl (OpP.move rfl) ?_
              refine JL.decT rfl rfl (OpP.neq rfl rfl) (by omega) ?_
              refine JL.pure rfl rfl (OpP.move rfl) ?_
              refine JL.pure rfl rfl (OpP.move rfl) ?_
              refine JL.decT rfl rfl (OpP.neq rfl rfl) (by omega) ?_
              refine JL.pure rfl rfl (OpP.pickT rfl rfl) ?_
              refine JL.pure rfl rfl (OpP.move rfl) ?_
              refine JL.pure rfl rfl (OpP.fieldAddr rfl) ?_
              refine JL.read rfl rfl (OpR.load1 rfl (Cell.row .head rfl)) ?_
              refine JL.dec rfl rfl (OpP.neq rfl rfl) (fun h45 => ?_) (fun h45 => ?_)
              focus
                refine JL.pure rfl rfl (OpP.pickT rfl rfl) ?_
                refine JL.pure rfl rfl (OpP.pickF rfl rfl) ?_
                refine JL.pure rfl rfl (OpP.move rfl) ?_
                refine JL.skip rfl rfl ?_
                refine JL.skip rfl rfl ?_
                refine JL.skip rfl rfl ?_
                refine JL.skip rfl rfl ?_
                refine JL.skip rfl rfl ?_
                refine JL.skip rfl rfl ?_
                refine JL.skip rfl rfl ?_
                refine JL.skip rfl rfl ?_
                refine JL.pure rfl rfl (OpP.pickT rfl rfl) ?_
                refine JL.nil ?_
                refine J.condT rfl ?_
                refine J.seq ?_
                refine J.region ?_
                refine JL.pure rfl rfl (OpP.assign rfl) ?_
                refine JL.nil ?_
                refine J.ret1 rfl rfl ?_
              rotate_left 1
              focus
                refine JL.pure rfl rfl (OpP.pickT rfl rfl) ?_
                refine JL.pure rfl rfl (OpP.pickF rfl rfl) ?_
                refine JL.pure rfl rfl (OpP.move rfl) ?_
                refine JL.pure rfl rfl (OpP.move rfl) ?_
                refine JL.decT rfl rfl (OpP.neq rfl rfl) (by omega) ?_
                refine JL.pure rfl rfl (OpP.move rfl) ?_
                refine JL.pure rfl rfl (OpP.fieldAddr rfl) ?_
                refine JL.read rfl rfl (OpR.load1 rfl (Cell.row .head rfl)) ?_
                refine JL.pure rfl rfl (OpP.len rfl rfl) ?_
                refine JL.dec rfl rfl (OpP.gtr rfl rfl) (fun h55 => ?_) (fun h55 => ?_)
                focus
                  refine JL.pure rfl rfl (OpP.pickT rfl rfl) ?_
                  refine JL.pure rfl rfl (OpP.pickF rfl rfl) ?_
                  refine JL.nil ?_
                  refine J.condT rfl ?_
                  refine J.seq ?_
                  refine J.region ?_
                  refine JL.pure rfl rfl (OpP.assign rfl) ?_
                  refine JL.nil ?_
                  refine J.ret1 rfl rfl ?_
                rotate_left 1
                focus
                  refine JL.pure rfl rfl (OpP.pickT rfl rfl) ?_
                  refine JL.pure rfl rfl (OpP.pickF rfl rfl) ?_
                  refine JL.nil ?_
                  refine J.condF rfl ?_
                  refine J.skip ?_
                rotate_left 1
              rotate_left 2
            rotate_left 3
          rotate_left 10
          focus
            refine JL.pure rfl rfl (OpP.move rfl) ?_
            refine JL.skip rfl rfl ?_
            refine JL.skip rfl rfl ?_
            refine JL.pure rfl rfl (OpP.pickF rfl rfl) ?_
            refine JL.pure rfl rfl (OpP.move rfl) ?_
            refine JL.skip rfl rfl ?_
            refine JL.skip rfl rfl ?_
            refine JL.skip rfl rfl ?_
            refine JL.pure rfl rfl (OpP.pickF rfl rfl) ?_
            refine JL.pure rfl rfl (OpP.pickF rfl rfl) ?_
            refine JL.pure rfl rfl (OpP.move rfl) ?_
            refine JL.pure rfl rfl (OpP.move rfl) ?_
            refine JL.decF rfl rfl (OpP.neq rfl rfl) (by omega) ?_
            refine JL.pure rfl rfl (OpP.move rfl) ?_
            refine JL.skip rfl rfl ?_
            refine JL.skip rfl rfl ?_
            refine JL.pure rfl rfl (OpP.pickF rfl rfl) ?_
            refine JL.pure rfl rfl (OpP.move rfl) ?_
            refine JL.skip rfl rfl ?_
            refine JL.skip rfl rfl ?_
            refine JL.skip rfl rfl ?_
            refine JL.pure rfl rfl (OpP.pickF rfl rfl) ?_
            refine JL.pure rfl rfl (OpP.pickF rfl rfl) ?_
            refine JL.pure rfl rfl (OpP.move rfl) ?_
            refine JL.pure rfl rfl (OpP.move rfl) ?_
            refine JL.decT rfl rfl (OpP.neq rfl rfl) (by omega) ?_
            refine JL.pure rfl rfl (OpP.move rfl) ?_
            refine JL.pure rfl rfl (OpP.fieldAddr rfl) ?_
            refine JL.read rfl rfl (OpR.load1 rfl (Cell.row .head rfl)) ?_
            refine JL.pure rfl rfl (OpP.len rfl rfl) ?_
            refine JL.dec rfl rfl (OpP.gtr rfl rfl) (fun h55 => ?_) (fun h55 => ?_)
            focus
              refine JL.pure rfl rfl (OpP.pickT rfl rfl) ?_
              refine JL.pure rfl rfl (OpP.pickF rfl rfl) ?_
              refine JL.nil ?_
              refine J.condT rfl ?_
              refine J.seq ?_
              refine J.region ?_
              refine JL.pure rfl rfl (OpP.assign rfl) ?_
              refine JL.nil ?_
              refine J.ret1 rfl rfl ?_
            rotate_left 1
            focus
              refine JL.pure rfl rfl (OpP.pickT rfl rfl) ?_
              refine JL.pure rfl rfl (OpP.pickF rfl rfl) ?_
              refine JL.nil ?_
              refine J.condF rfl ?_
              refine J.skip ?_
            rotate_left 1
          rotate_left 2
        rotate_left 12
      rotate_left 13
      focus
        refine JL.pure rfl rfl (OpP.move rfl) ?_
        refine JL.skip rfl rfl ?_
        refine JL.skip rfl rfl ?_
        refine JL.skip rfl rfl ?_
        refine JL.pure rfl rfl (OpP.pickF rfl rfl) ?_
        refine JL.pure rfl rfl (OpP.pickF rfl rfl) ?_
        refine JL.pure rfl rfl (OpP.move rfl) ?_
        refine JL.pure rfl rfl (OpP.move rfl) ?_
        refine JL.decT rfl rfl (OpP.neq rfl rfl) (by omega) ?_
        refine JL.pure rfl rfl (OpP.move rfl) ?_
        refine JL.pure rfl rfl (OpP.move rfl) ?_
        refine JL.decT rfl rfl (OpP.neq rfl rfl) (by omega) ?_
        refine JL.pure rfl rfl (OpP.pickT rfl rfl) ?_
        refine JL.pure rfl rfl (OpP.move rfl) ?_
        refine JL.pure rfl rfl (OpP.fieldAddr rfl) ?_
        refine JL.read rfl rfl (OpR.load1 rfl (Cell.row .head rfl)) ?_
        refine JL.dec rfl rfl (OpP.neq rfl rfl) (fun h32 => ?_) (fun h32 => ?_)
        focus
          refine JL.pure rfl rfl (OpP.pickT rfl rfl) ?_
          refine JL.pure rfl rfl (OpP.pickF rfl rfl) ?_
          refine JL.pure rfl rfl (OpP.move rfl) ?_
          refine JL.skip rfl rfl ?_
          refine JL.skip rfl rfl ?_
          refine JL.skip rfl rfl ?_
          refine JL.skip rfl rfl ?_
          refine JL.skip rfl rfl ?_
          refine JL.skip rfl rfl ?_
          refine JL.skip rfl rfl ?_
          refine JL.skip rfl rfl ?_
          refine JL.skip rfl rfl ?_
          refine JL.skip rfl rfl ?_
          refine JL.skip rfl rfl ?_
          refine JL.pure rfl rfl (OpP.pickT rfl rfl) ?_
          refine JL.pure rfl rfl (OpP.move rfl) ?_
          refine JL.skip rfl rfl ?_
          refine JL.skip rfl rfl ?_
          refine JL.skip rfl rfl ?_
          refine JL.skip rfl rfl ?_
          refine JL.skip rfl rfl ?_
          refine JL.skip rfl rfl ?_
          refine JL.skip rfl rfl ?_
          refine JL.skip rfl rfl ?_
          refine JL.pure rfl rfl (OpP.pickT rfl rfl) ?_
          refine JL.nil ?_
          refine J.condT rfl ?_
          refine J.seq ?_
          refine J.region ?_
          refine JL.pure rfl rfl (OpP.assign rfl) ?_
          refine JL.nil ?_
          refine J.ret1 rfl rfl ?_
        rotate_left 1
        focus
          refine JL.pure rfl rfl (OpP.pickT rfl rfl) ?_
          refine JL.pure rfl rfl (OpP.pickF rfl rfl) ?_
          refine JL.pure rfl rfl (OpP.move rfl) ?_
          refine JL.pure rfl rfl (OpP.move rfl) ?_
          refine JL.decT rfl rfl (OpP.neq rfl rfl) (by omega) ?_
          refine JL.pure rfl rfl (OpP.move rfl) ?_
          refine JL.pure rfl rfl (OpP.move rfl) ?_
          refine JL.decT rfl rfl (OpP.neq rfl rfl) (by omega) ?_
          refine JL.pure rfl rfl (OpP.pickT rfl rfl) ?_
          refine JL.pure rfl rfl (OpP.move rfl) ?_
          refine JL.pure rfl rfl (OpP.fieldAddr rfl) ?_
          refine JL.read rfl rfl (OpR.load1 rfl (Cell.row .head rfl)) ?_
          refine JL.dec rfl rfl (OpP.neq rfl rfl) (fun h45 => ?_) (fun h45 => ?_)
          focus
            refine JL.pure rfl rfl (OpP.pickT rfl rfl) ?_
            refine JL.pure rfl rfl (OpP.pickF rfl rfl) ?_
            refine JL.pure rfl rfl (OpP.move rfl) ?_
            refine JL.skip rfl rfl ?_
            refine JL.skip rfl rfl ?_
            refine JL.skip rfl rfl ?_
            refine JL.skip rfl rfl ?_
            refine JL.skip rfl rfl ?_
            refine JL.skip rfl rfl ?_
            refine JL.skip rfl rfl ?_
            refine JL.skip rfl rfl ?_
            refine JL.pure rfl rfl (OpP.pickT rfl rfl) ?_
            refine JL.nil ?_
            refine J.condT rfl ?_
            refine J.seq ?_
            refine J.region ?_
            refine JL.pure rfl rfl (OpP.assign rfl) ?_
            refine JL.nil ?_
            refine J.ret1 rfl rfl ?_
          rotate_left 1
          focus
            refine JL.pure rfl rfl (OpP.pickT rfl rfl) ?_
            refine JL.pure rfl rfl (OpP.pickF rfl rfl) ?_
            refine JL.pure rfl rfl (OpP.move rfl) ?_
            refine JL.pure rfl rfl (OpP.move rfl) ?_
            refine JL.decT rfl rfl (OpP.neq rfl rfl) (by omega) ?_
            refine JL.pure rfl rfl (OpP.move rfl) ?_
            refine JL.pure rfl rfl (OpP.fieldAddr rfl) ?_
            refine JL.read rfl rfl (OpR.load1 rfl (Cell.row .head rfl)) ?_
            refine JL.pure rfl rfl (OpP.len rfl rfl) ?_
            refine JL.dec rfl rfl (OpP.gtr rfl rfl) (fun h55 => ?_) (fun h55 => ?_)
            focus
              refine JL.pure rfl rfl (OpP.pickT rfl rfl) ?_
              refine JL.pure rfl rfl (OpP.pickF rfl rfl) ?_
              refine JL.nil ?_
              refine J.condT rfl ?_
              refine J.seq ?_
              refine J.region ?_
              refine JL.pure rfl rfl (OpP.assign rfl) ?_
              refine JL.nil ?_
              refine J.ret1 rfl rfl ?_
            rotate_left 1
            focus
              refine JL.pure rfl rfl (OpP.pickT rfl rfl) ?_
              refine JL.pure rfl rfl (OpP.pickF rfl rfl) ?_
              refine JL.nil ?_
              refine J.condF rfl ?_
              refine J.skip ?_
            rotate_left 1
          rotate_left 2
        rotate_left 3
      rotate_left 4
    rotate_left 17
  rotate_left 18
  all_goals
    try rw [ne_eq, strB_nil] at h19
    first
      | exact ⟨_, ⟨_, rfl, rfl, fun q => absurd q Bool.false_ne_true, fun q => absurd q.1 (by unfold May1; omega)⟩, fun _ h => h.tail⟩
      | exact back () (by unfold May1; omega) (by repeat (first | exact SubEnv.nil | refine SubEnv.cons (by first | rfl | exact congrArg (fun z => some (Value.int .i64 z)) (by omega) | (simp; done)) ?_)) (fun _ h => h)
end Go.Proofs.E

-- seat e
namespace Go.Proofs.E
open Go Go.Gp Go.RowKit

theorem VaEq.symm {u v : Va} (h : VaEq u v) : VaEq v u := ⟨h.1.symm, h.2.1.symm, h.2.2.1.symm, h.2.2.2.symm⟩
theorem VaEq.rfl {u : Va} : VaEq u u := ⟨Eq.refl _, Eq.refl _, Eq.refl _, Eq.refl _⟩
theorem VaEq.comm {u v : Va} : VaEq u v ↔ VaEq v u := ⟨VaEq.symm, VaEq.symm⟩
theorem HsEq.rfl {hs : List Hd} : HsEq hs hs := ⟨Eq.refl _, fun j x y hx hy => by
  obtain h1 : x = y := Option.some.inj (hx.symm.trans hy)
  rw [h1]
  exact ⟨Eq.refl _, Eq.refl _, VaEq.rfl⟩⟩
theorem HsEq.nil {hs : List Hd} : HsEq [] hs ↔ hs.length = 0 := ⟨fun h => h.1.symm, fun h => ⟨h.symm, fun j x y hx => by simp at hx⟩⟩
theorem Rw.Eq.rfl {r : Rw} : r.Eq r := ⟨Eq.refl _, Eq.refl _, Eq.refl _, VaEq.rfl⟩
theorem zRw_eq {r : Rw} : zRw.Eq r ↔ (r.who.length = 0 ∧ r.name.length = 0 ∧ r.attr.length = 0) ∧ VaEq r.v zVa := by
  unfold Rw.Eq
  rw [VaEq.comm]
  constructor
  · rintro ⟨h1, h2, h3, h4⟩; exact ⟨⟨by rw [← h1]; exact Eq.refl _, by rw [← h2]; exact Eq.refl _, by rw [← h3]; exact Eq.refl _⟩, h4⟩
  · rintro ⟨⟨h1, h2, h3⟩, h4⟩; exact ⟨(List.eq_nil_of_length_eq_zero h1).symm, (List.eq_nil_of_length_eq_zero h2).symm, (List.eq_nil_of_length_eq_zero h3).symm, h4⟩
theorem nil_eq {s : List UInt8} : [] = s ↔ s.length = 0 := by rw [eq_comm, List.length_eq_zero_iff]
theorem may_iff (c : Cm) : MayP c ↔ FormedC c := by
  have hm := mostN_or c
  unfold MayP May1 May2 May3 May4 May5 FormedC FitP Cm.Eq
  generalize c.row.v.Fm = q1
  generalize (∀ (j : Nat) (h : Hd), c.hs[j]? = some h → h.v.Fm) = q2
  by_cases h1 : c.kind = 1
  · rw [show onlyC c = ⟨c.kind, c.text, zRw, [], [], 0, 0, [], none, 0⟩ by simp [onlyC, h1]]
    dsimp only
    simp only [zRw_eq, nil_eq, HsEq.nil]
    generalize VaEq c.row.v zVa = q3
    grind (splits := 60)
  by_cases h2 : c.kind = 2
  · rw [show onlyC c = ⟨c.kind, [], c.row, [], [], 0, 0, [], none, 0⟩ by simp [onlyC, h2]]
    dsimp only
    simp only [nil_eq, HsEq.nil, iff_true_intro (Rw.Eq.rfl (r := c.row))]
    generalize VaEq c.row.v zVa = q3
    grind (splits := 60)
  by_cases h3 : c.kind = 3
  · rw [show onlyC c = ⟨c.kind, [], ⟨c.row.who, c.row.name, c.row.attr, zVa⟩, [], [], 0, 0, [], none, 0⟩ by simp [onlyC, h3]]
    dsimp only
    simp only [nil_eq, HsEq.nil, Rw.Eq, VaEq.comm (u := zVa)]
    generalize VaEq c.row.v zVa = q3
    grind (splits := 60)
  by_cases h4 : c.kind = 4
  · rw [show onlyC c = ⟨c.kind, [], zRw, c.a, c.b, 0, 0, [], none, 0⟩ by simp [onlyC, h4]]
    dsimp only
    simp only [zRw_eq, nil_eq, HsEq.nil]
    generalize VaEq c.row.v zVa = q3
    grind (splits := 60)
  by_cases h5 : c.kind = 5
  · rw [show onlyC c = ⟨c.kind, [], zRw, c.a, c.b, 0, 0, [], none, 0⟩ by simp [onlyC, h5]]
    dsimp only
    simp only [zRw_eq, nil_eq, HsEq.nil]
    generalize VaEq c.row.v zVa = q3
    grind (splits := 60)
  by_cases h6 : c.kind = 6
  · rw [show onlyC c = ⟨c.kind, [], zRw, c.a, c.b, 0, 0, [], none, 0⟩ by simp [onlyC, h6]]
    dsimp only
    simp only [zRw_eq, nil_eq, HsEq.nil]
    generalize VaEq c.row.v zVa = q3
    grind (splits := 60)
  by_cases h7 : c.kind = 7
  · rw [show onlyC c = ⟨c.kind, [], zRw, c.a, c.b, 0, 0, [], none, 0⟩ by simp [onlyC, h7]]
    dsimp only
    simp only [zRw_eq, nil_eq, HsEq.nil]
    generalize VaEq c.row.v zVa = q3
    grind (splits := 60)
  by_cases h8 : c.kind = 8
  · rw [show onlyC c = ⟨c.kind, [], zRw, c.a, c.b, c.n, c.t, [], none, 0⟩ by simp [onlyC, h8]]
    dsimp only
    simp only [zRw_eq, nil_eq, HsEq.nil]
    generalize VaEq c.row.v zVa = q3
    grind (splits := 60)
  by_cases h9 : c.kind = 9
  · rw [show onlyC c = ⟨c.kind, [], zRw, c.a, [], c.n, 0, [], none, 0⟩ by simp [onlyC, h9]]
    dsimp only
    simp only [zRw_eq, nil_eq, HsEq.nil]
    generalize VaEq c.row.v zVa = q3
    grind (splits := 60)
  by_cases h10 : c.kind = 10
  · rw [show onlyC c = ⟨c.kind, [], zRw, [], [], 0, c.t, [], none, 0⟩ by simp [onlyC, h10]]
    dsimp only
    simp only [zRw_eq, nil_eq, HsEq.nil]
    generalize VaEq c.row.v zVa = q3
    grind (splits := 60)
  by_cases h11 : c.kind = 11
  · rw [show onlyC c = ⟨c.kind, [], zRw, c.a, c.b, 0, 0, c.hs, c.ha, c.hc⟩ by simp [onlyC, h11]]
    dsimp only
    simp only [zRw_eq, nil_eq, iff_true_intro (HsEq.rfl (hs := c.hs))]
    generalize VaEq c.row.v zVa = q3
    grind (splits := 60)
  constructor
  · intro h; exact absurd h.1.1 (by omega)
  · intro h; exact absurd h.1 (by omega)
end Go.Proofs.E

-- seat e
namespace Go.Proofs.E
open Go Go.Gp Go.RowKit

abbrev tP (s : List UInt8) : Pa := pTxt 5 s
def hadP (h : Hd) : List Pa := [tP h.who, tP h.name, pVal h.v]
def tailP (c : Cm) : List Pa :=
  if c.kind = 1 then [tP c.text] else if c.kind = 2 then [tP c.row.who, tP c.row.name, tP c.row.attr, pVal c.row.v] else if c.kind = 3 then [tP c.row.who, tP c.row.name, tP c.row.attr] else if c.kind = 8 then [tP c.a, tP c.b, pNum 0 c.n, pNum 3 c.t] else if c.kind = 9 then [tP c.a, pNum 1 c.n] else if c.kind = 10 then [pNum 3 c.t] else if c.kind = 11 then [tP c.a, tP c.b, pNum 0 c.hs.length] ++ c.hs.flatMap hadP else [tP c.a, tP c.b]
/-- The parts of a command. -/
def cmP (c : Cm) : List Pa := pNum 0 c.kind :: tailP c
theorem allF_val {o : Option (List UInt8)} {u : Va} (h : u.Fm) : (partB (pVal u)).bind (putO o) = putO o (valB u.k u.i u.s u.xs) := by
  rw [partB, if_neg (by dsimp only; decide), if_neg (by dsimp only; decide), if_neg (by dsimp only; decide), if_neg (by dsimp only; decide), if_neg (by dsimp only; decide), if_neg (by dsimp only; decide), if_neg (by dsimp only; decide), if_pos h]; rfl
theorem allF_nil {o : Option (List UInt8)} : allF o [] = o := rfl
theorem allF_had {o : Option (List UInt8)} {x : Hd} (h : x.v.Fm) : allF o (hadP x) = putO (textO (textO o x.who) x.name) (valB x.v.k x.v.i x.v.s x.v.xs) := by
  rw [hadP, allF_cons, allF_cons, allF_cons, allF_text, allF_text, allF_val h, allF_nil]
/-- Sizes that are looked at. -/
structure CmSz (c : Cm) : Prop where
  text : c.text.length ≤ 5000
  who : c.row.who.length ≤ 5000
  name : c.row.name.length ≤ 5000
  attr : c.row.attr.length ≤ 5000
  a : c.a.length ≤ 5000
  b : c.b.length ≤ 5000
  h : ∀ h ∈ c.hs, h.who.length ≤ 5000 ∧ h.name.length ≤ 5000 ∧ FewU h.v
  v : FewU c.row.v
theorem outV_ok {w0 : World} {F : List HProp} {oe g : Nat} {bad : Bool} {v : Value} {L : List UInt8} {u : Va} (hL : L.length ≤ 4096) (hu : VOk w0 F u) (hf : u.Fm) :
    Wrote w0 55 [.pointer (some ⟨g, 0, none⟩), .agg (vac u).toArray] oe g bad v L F (putO (absO bad L) (valB u.k u.i u.s u.xs)) := outVal_ok hL hu.e hu.n hf hu.r
theorem texts2_ok {w0 : World} {F : List HProp} {oe g b c : Nat} {bad : Bool} {v : Value} {L s t : List UInt8} (hL : L.length ≤ 4096) (hs : s.length ≤ 5000) (ht : t.length ≤ 5000) (hc : 2 ≤ c) (hr : Has (row b 9 [.string (strB s), .string (strB t)]) F) :
    Wrote w0 93 [.pointer (some ⟨g, 0, none⟩), .slice (some ⟨b, 0, none⟩) 2 c] oe g bad v L F (textO (textO (absO bad L) s) t) :=
  wtexts_ok (ts := [s, t]) hL (by simp) (by intro x hx; simp at hx; rcases hx with rfl | rfl <;> omega) (RdO.ofRow hr hc)
theorem texts3_ok {w0 : World} {F : List HProp} {oe g b c : Nat} {bad : Bool} {v : Value} {L s t q : List UInt8} (hL : L.length ≤ 4096) (hs : s.length ≤ 5000) (ht : t.length ≤ 5000) (hq : q.length ≤ 5000) (hc : 3 ≤ c) (hr : Has (row b 9 [.string (strB s), .string (strB t), .string (strB q)]) F) :
    Wrote w0 93 [.pointer (some ⟨g, 0, none⟩), .slice (some ⟨b, 0, none⟩) 3 c] oe g bad v L F (textO (textO (textO (absO bad L) s) t) q) :=
  wtexts_ok (ts := [s, t, q]) hL (by simp) (by intro x hx; simp at hx; rcases hx with rfl | rfl | rfl <;> omega) (RdO.ofRow hr hc)
theorem whas_ok {w0 : World} {F : List HProp} {oe g : Nat} {bad : Bool} {v : Value} {L : List UInt8} {a : Option Addr} {c : Nat} {hs : List Hd} (hL : L.length ≤ 4096) (hh : HsOk w0 F a c hs) (hz : ∀ h ∈ hs, h.who.length ≤ 5000 ∧ h.name.length ≤ 5000) (hf : ∀ h ∈ hs, h.v.Fm) :
    Wrote w0 98 [.pointer (some ⟨g, 0, none⟩), .slice a hs.length c] oe g bad v L F (allF (smallO (absO bad L) hs.length 1) (hs.flatMap hadP)) := by
  have hlen : ∀ e ∈ hs, (hcl e).length = 6 := fun _ _ => rfl
  have hn := hh.n
  refine FnO.rdF (fun _ h => h.tail.tail) hh.r fun hd1 => ?_
  refine FnO.weak ?_
  refine FnO.intro (n := 32) Try.func98 rfl rfl rfl ?_
  refine J.lit (.tail .head) fun av cv ev => ?_; subst ev
  refine J.seq ?_
  refine J.region ?_
  refine JL.pure rfl rfl (OpP.move rfl) ?_
  refine JL.pure rfl rfl (OpP.nilCheck rfl) ?_
  refine JL.pure rfl rfl (OpP.fieldAddr rfl) ?_
  refine JL.pure rfl rfl (OpP.move rfl) ?_
  refine JL.pure rfl rfl (OpP.len rfl rfl) ?_
  refine JL.step rfl rfl (OpW.call (first := []) (captured := []) inferInstance rfl rfl (outU8_ok hL)) ?_; rintro r11 _ ⟨rfl, ⟨bad', ⟨v', ⟨L', ⟨h11, ⟨h111, rfl⟩⟩⟩⟩⟩⟩
  refine JL.lit (.tail .head) fun av' cv' ev' => ?_; subst ev'
  refine JL.nil ?_
  refine J.seq ?_
  refine J.region ?_
  refine JL.pure rfl rfl (OpP.move rfl) ?_
  refine JL.pure rfl rfl (OpP.len rfl rfl) ?_
  refine JL.pure rfl rfl (OpP.move rfl) ?_
  refine JL.nil ?_
  refine J.block ?_
  refine J.loopI (fun x : Nat × Bool × Value × List UInt8 => hs.length - x.1) (fun x => x.1 ≤ hs.length ∧ x.2.2.2.length ≤ 4096 ∧ absO x.2.1 x.2.2.2 = allF (smallO (absO bad L) hs.length 1) ((hs.take x.1).flatMap hadP)) (fun x => [(14, .int .i64 (x.1 : Nat)), (13, .int .i64 (hs.length : Nat)), (12, .slice a hs.length c), (0, .pointer (some ⟨g, 0, none⟩))])
    (fun x => outL oe g x.2.1 x.2.2.1 x.2.2.2 F) (0, bad', .slice av' L'.length cv', L') ⟨Nat.zero_le _, by assumption, by dsimp only; rw [h111]; rfl⟩ (by repeat (first | exact SubEnv.nil | refine SubEnv.cons (by first | rfl | exact congrArg (fun z => some (Value.int .i64 z)) (by omega) | (simp; done)) ?_)) (fun _ h => h) (fun ⟨j, bd, z, Q⟩ hi back => ?_)
  dsimp only at hi back ⊢
  obtain ⟨hj, hQ, hall⟩ := hi
  by_cases hlt : j < hs.length
  · obtain ⟨x, hxj⟩ : ∃ e, hs[j]? = some e := ⟨_, List.getElem?_eq_getElem hlt⟩
    have hxm := List.mem_of_getElem? hxj
    obtain ⟨z1, z2⟩ := hz x hxm
    have hx1 := hh.v x hxm
    have hx2 := hf x hxm
    have p1 := fun (A B : HProp) (v : Value) (b : Bool) (M : List UInt8) (hM : M.length ≤ 4096) => outV_ok (F := A :: B :: F) (oe := oe) (g := g) (bad := b) (v := v) (L := M) hM hx1.sub.sub hx2
    obtain ⟨ga, pa, qa, ea, ka, hcs⟩ := hd1.pos (by omega)
    rw [ea] at hd1 back ⊢
    refine J.lit (.tail .head) fun az cz ez => ?_; subst ez
    refine J.seq ?_
    refine J.region ?_
    refine JL.decT rfl rfl (OpP.lss rfl rfl) (by omega) ?_
    refine JL.nil ?_
    refine J.seq ?_
    refine J.condT rfl ?_
    refine J.skip ?_
    refine J.seq ?_
    refine J.block ?_
    refine J.seq ?_
    refine J.region ?_
    refine JL.pure rfl rfl (OpP.indexAddr rfl rfl (by omega) (by omega)) ?_
    refine JL.read rfl rfl (OpR.loadN rfl (by apply Cells.conv (fun _ h => Own.pick (pre := [_, _]) [] rfl h); apply Cells.chunkAt hcs; (case' h => assumption); (case' hi => assumption); done) (by first | rfl | assumption)) ?_
    refine JL.mem rfl rfl OpM.alloc ?_; rintro _ _ ⟨b5, rfl, rfl⟩
    refine JL.mem0 rfl (by apply OpM.storeN rfl rfl (by rfl) (oneC rfl (oneC rfl (oneC rfl (oneC rfl (oneC rfl (one1 rfl)))))); (case' hu => exact .head); (case' hs => exact (.here (.here (.here (.here (.here (.here .nil))))))); done) ?_; rintro _ _ ⟨rfl, rfl⟩
    refine JL.nil ?_
    refine J.seq ?_
    refine J.region ?_
    refine JL.pure rfl rfl (OpP.move rfl) ?_
    refine JL.pure rfl rfl (OpP.fieldAddr rfl) ?_
    refine JL.read rfl rfl (OpR.load1 rfl (Cell.row .head rfl)) ?_
    refine JL.pure rfl rfl (OpP.fieldAddr rfl) ?_
    refine JL.read rfl rfl (OpR.load1 rfl (Cell.row .head rfl)) ?_
    refine JL.mem rfl rfl (by apply OpM.buildSlice (by rfl) rfl (by rfl); (repeat (first | exact Fills.nil | (apply Fills.cons rfl rfl rfl; (case' hs => ((repeat (first | exact Spl.nil | apply Spl.here | apply Spl.there)); done)))))) ?_; rintro _ _ ⟨b23, rfl, rfl⟩
    refine JL.f3 ?_; refine JL.f3 ?_; refine JL.step rfl rfl (OpW.call (first := []) (captured := []) inferInstance rfl rfl (texts2_ok (s := x.who) (t := x.name) hQ z1 z2 (by omega) (by first | exact .head | exact .tail .head))) ?_; rintro r24 _ ⟨rfl, ⟨bad'1, ⟨v', ⟨L'1, ⟨h24, ⟨h241, rfl⟩⟩⟩⟩⟩⟩
    refine JL.lit (.tail .head) fun av' cv' ev' => ?_; subst ev'
    refine JL.nil ?_
    refine J.regionD [4] (by kernel_rfl) ?_
    refine DL.pure (i := 0) (by kernel_rfl) (by kernel_rfl) rfl rfl rfl (OpP.move rfl) ?_
    refine DL.pure (i := 1) (by kernel_rfl) (by kernel_rfl) rfl rfl rfl (OpP.nilCheck rfl) ?_
    refine DL.pure (i := 2) (by kernel_rfl) (by kernel_rfl) rfl rfl rfl (OpP.fieldAddr rfl) ?_
    refine DL.pure (i := 3) (by kernel_rfl) (by kernel_rfl) rfl rfl rfl (OpP.fieldAddr rfl) ?_
    refine DL.read (i := 4) (by kernel_rfl) (by kernel_rfl) rfl rfl rfl (fun _ h => h) (OpR.loadN rfl (Cells.sub 4 (.tail (.tail (.tail .head))) rfl) rfl) ?_
    refine DL.only (i := 5) (by kernel_rfl) ?_
    refine DL1.stepF rfl rfl rfl (by kernel_rfl) (by exact OpW.call (first := []) (captured := []) inferInstance rfl rfl (p1 _ _ _ _ _ (by assumption))) ?_; rintro r30 _ ⟨rfl, ⟨bad'2, ⟨v', ⟨L'2, ⟨h30, ⟨h301, rfl⟩⟩⟩⟩⟩⟩
    refine DL.lit (.tail .head) fun av' cv' ev' => ?_; subst ev'
    refine DL.done (by kernel_rfl) ?_
    refine J.inBlock ?_
    refine J.region ?_
    refine JL.pure rfl rfl (OpP.addI rfl rfl (by omega) (by omega)) ?_
    refine JL.pure rfl rfl (OpP.move rfl) ?_
    refine JL.nil ?_
    refine back (j + 1, bad'2, .slice av' L'2.length cv', L'2) ⟨by dsimp only; omega, h30, ?_⟩ (by dsimp only; omega) (by repeat (first | exact SubEnv.nil | refine SubEnv.cons (by first | rfl | exact congrArg (fun z => some (Value.int .i64 z)) (by omega) | (simp; done)) ?_)) (fun _ h => Own.pick (pre := [_, _, _, _]) [0, 1] rfl h)
    dsimp only
    rw [List.take_add_one, hxj, Option.toList_some, List.flatMap_append, allF_append, ← hall, List.flatMap_cons, List.flatMap_nil, List.append_nil, allF_had hx2, h301, h241]
  · have : j = hs.length := by omega
    subst this
    rw [List.take_length] at hall
    refine J.lit (.tail .head) fun az cz ez => ?_; subst ez
    refine J.seq ?_
    refine J.region ?_
    refine JL.decF rfl rfl (OpP.lss rfl rfl) (by omega) ?_
    refine JL.nil ?_
    refine J.seq ?_
    refine J.condF rfl ?_
    refine J.exit rfl ?_
    refine J.fin0 rfl ?_
    exact ⟨_, ⟨rfl, bd, _, Q, hQ, hall, rfl⟩, fun _ h => h⟩
end Go.Proofs.E

-- seat e
namespace Go.Proofs.E
open Go Go.Gp Go.RowKit

theorem allF_b {o : Option (List UInt8)} {n : Int} : (partB (pNum 0 n)).bind (putO o) = smallO o n 1 := allF_num (.inl ⟨rfl, rfl⟩)
theorem allF_s {o : Option (List UInt8)} {n : Int} : (partB (pNum 1 n)).bind (putO o) = smallO o n 2 := allF_num (.inr ⟨rfl, rfl⟩)
theorem tail_of (c : Cm) : (c.kind = 1 → tailP c = [tP c.text]) ∧ (c.kind = 2 → tailP c = [tP c.row.who, tP c.row.name, tP c.row.attr, pVal c.row.v]) ∧ (c.kind = 3 → tailP c = [tP c.row.who, tP c.row.name, tP c.row.attr]) ∧ (c.kind = 8 → tailP c = [tP c.a, tP c.b, pNum 0 c.n, pNum 3 c.t]) ∧ (c.kind = 9 → tailP c = [tP c.a, pNum 1 c.n]) ∧ (c.kind = 10 → tailP c = [pNum 3 c.t]) ∧ (c.kind = 11 → tailP c = [tP c.a, tP c.b, pNum 0 c.hs.length] ++ c.hs.flatMap hadP) ∧ (c.kind ≠ 1 → c.kind ≠ 2 → c.kind ≠ 3 → c.kind ≠ 8 → c.kind ≠ 9 → c.kind ≠ 10 → c.kind ≠ 11 → tailP c = [tP c.a, tP c.b]) := by
  unfold tailP
  refine ⟨?_, ?_, ?_, ?_, ?_, ?_, ?_, ?_⟩ <;> intros <;> simp_all
theorem wcmd_ok {w0 : World} {F : List HProp} {oe g : Nat} {bad : Bool} {v : Value} {L : List UInt8} {c : Cm} (hL : L.length ≤ 4096) (hc : CmOk w0 F c) (hz : CmSz c) (hf : ∀ h ∈ c.hs, h.v.Fm) (hv : c.row.v.Fm) :
    Wrote w0 80 [.pointer (some ⟨g, 0, none⟩), .agg c.cells.toArray] oe g bad v L F (allF (absO bad L) (cmP c)) := by
  obtain ⟨t1, t2, t3, t8, t9, t10, t11, td⟩ := tail_of c
  have zt := hz.text
  have z1 := hz.who
  have z2 := hz.name
  have z3 := hz.attr
  have za := hz.a
  have zb := hz.b
  have pv := fun (A B : HProp) (v : Value) (b : Bool) (M : List UInt8) (hM : M.length ≤ 4096) => outV_ok (F := A :: B :: F) (oe := oe) (g := g) (bad := b) (v := v) (L := M) hM hc.v.sub.sub hv
  have ph := fun (A B : HProp) (v : Value) (b : Bool) (M : List UInt8) (hM : M.length ≤ 4096) => whas_ok (F := A :: B :: F) (oe := oe) (g := g) (bad := b) (v := v) (L := M) hM hc.h.sub.sub (fun h hh => ⟨(hz.h h hh).1, (hz.h h hh).2.1⟩) hf
  refine FnO.weak ?_
  refine FnO.intro (n := 106) Try.func80 rfl rfl rfl ?_
  refine J.lit (.tail .head) fun av cv ev => ?_; subst ev
  refine J.seq ?_
  refine J.region ?_
  refine JL.mem rfl rfl (OpM.box rfl rfl) ?_; rintro _ _ ⟨b3, rfl, rfl⟩
  refine JL.nil ?_
  refine J.conv (l' := outL oe g bad _ L (row b3 66 c.cells :: F)) (fun _ h => Own.pick (pre := [_, _, _]) [1, 2, 0] rfl h) ?_
  refine J.seq ?_
  refine J.regionD [4] (by kernel_rfl) ?_
  refine DL.pure (i := 0) (by kernel_rfl) (by kernel_rfl) rfl rfl rfl (OpP.move rfl) ?_
  refine DL.pure (i := 1) (by kernel_rfl) (by kernel_rfl) rfl rfl rfl (OpP.nilCheck rfl) ?_
  refine DL.pure (i := 2) (by kernel_rfl) (by kernel_rfl) rfl rfl rfl (OpP.fieldAddr rfl) ?_
  refine DL.pure (i := 3) (by kernel_rfl) (by kernel_rfl) rfl rfl rfl (OpP.fieldAddr rfl) ?_
  refine DL.read (i := 4) (by kernel_rfl) (by kernel_rfl) rfl rfl rfl (fun _ h => h) (OpR.load1 rfl (Cell.row (.tail (.tail .head)) rfl)) ?_
  refine DL.only (i := 5) (by kernel_rfl) ?_
  refine DL1.stepF rfl rfl rfl (by kernel_rfl) (by exact OpW.call (first := []) (captured := []) inferInstance rfl rfl (outU8_ok hL)) ?_; rintro r9 _ ⟨rfl, ⟨bad', ⟨v', ⟨L', ⟨h9, ⟨h91, rfl⟩⟩⟩⟩⟩⟩
  refine DL.lit (.tail .head) fun av' cv' ev' => ?_; subst ev'
  refine DL.done (by kernel_rfl) ?_
  refine J.seq ?_
  by_cases k1 : c.kind = 1
  · have ht := t1 k1
    refine J.seq ?_
    refine J.region ?_
    refine JL.pure rfl rfl (OpP.fieldAddr rfl) ?_
    refine JL.read rfl rfl (OpR.load1 rfl (Cell.row (.tail (.tail .head)) rfl)) ?_
    refine JL.nil ?_
    refine J.block ?_
    refine J.seq ?_
    refine J.region ?_
    refine JL.decT rfl rfl (OpP.eql rfl rfl) (by omega) ?_
    refine JL.pure rfl rfl (OpP.assign rfl) ?_
    refine JL.nil ?_
    refine J.condT rfl ?_
    refine J.regionD [4] (by kernel_rfl) ?_
    refine DL.pure (i := 0) (by kernel_rfl) (by kernel_rfl) rfl rfl rfl (OpP.move rfl) ?_
    refine DL.pure (i := 1) (by kernel_rfl) (by kernel_rfl) rfl rfl rfl (OpP.nilCheck rfl) ?_
    refine DL.pure (i := 2) (by kernel_rfl) (by kernel_rfl) rfl rfl rfl (OpP.fieldAddr rfl) ?_
    refine DL.pure (i := 3) (by kernel_rfl) (by kernel_rfl) rfl rfl rfl (OpP.fieldAddr rfl) ?_
    refine DL.read (i := 4) (by kernel_rfl) (by kernel_rfl) rfl rfl rfl (fun _ h => h) (OpR.load1 rfl (Cell.row (.tail (.tail .head)) rfl)) ?_
    refine DL.only (i := 5) (by kernel_rfl) ?_
    refine DL1.stepF rfl rfl rfl (by kernel_rfl) (by exact OpW.call (first := []) (captured := []) inferInstance rfl rfl (outText_ok (by assumption) (by omega))) ?_; rintro r26 _ ⟨rfl, ⟨bad'1, ⟨v', ⟨L'1, ⟨h26, ⟨h261, rfl⟩⟩⟩⟩⟩⟩
    refine DL.lit (.tail .head) fun av' cv' ev' => ?_; subst ev'
    refine DL.done (by kernel_rfl) ?_
    refine J.inBlock ?_
    refine J.seq ?_
    refine J.region ?_
    refine JL.pure rfl rfl (OpP.fieldAddr rfl) ?_
    refine JL.read rfl rfl (OpR.load1 rfl (Cell.row (.tail (.tail .head)) rfl)) ?_
    refine JL.nil ?_
    refine J.block ?_
    refine J.seq ?_
    refine J.region ?_
    refine JL.decF rfl rfl (OpP.eql rfl rfl) (by omega) ?_
    refine JL.pure rfl rfl (OpP.assign rfl) ?_
    refine JL.nil ?_
    refine J.condF rfl ?_
    refine J.seq ?_
    refine J.region ?_
    refine JL.decF rfl rfl (OpP.eql rfl rfl) (by omega) ?_
    refine JL.pure rfl rfl (OpP.assign rfl) ?_
    refine JL.nil ?_
    refine J.condF rfl ?_
    refine J.skip ?_
    refine J.inBlock ?_
    refine J.fin0 rfl ?_
    exact ⟨_, ⟨rfl, bad'1, _, L'1, h26, by rw [h261, h91, cmP, ht]; simp only [allF_cons, allF_append, allF_nil, allF_text, allF_b, allF_s, allF_long, allF_val hv], rfl⟩, fun _ h => Own.pick (pre := [_, _, _]) [0, 1] rfl h⟩
  by_cases k2 : c.kind = 2
  · have ht := t2 k2
    refine J.seq ?_
    refine J.region ?_
    refine JL.pure rfl rfl (OpP.fieldAddr rfl) ?_
    refine JL.read rfl rfl (OpR.load1 rfl (Cell.row (.tail (.tail .head)) rfl)) ?_
    refine JL.nil ?_
    refine J.block ?_
    refine J.seq ?_
    refine J.region ?_
    refine JL.decF rfl rfl (OpP.eql rfl rfl) (by omega) ?_
    refine JL.pure rfl rfl (OpP.assign rfl) ?_
    refine JL.nil ?_
    refine J.condF rfl ?_
    refine J.seq ?_
    refine J.region ?_
    refine JL.decT rfl rfl (OpP.eql rfl rfl) (by omega) ?_
    refine JL.pure rfl rfl (OpP.assign rfl) ?_
    refine JL.nil ?_
    refine J.condT rfl ?_
    refine J.seq ?_
    refine J.region ?_
    refine JL.pure rfl rfl (OpP.move rfl) ?_
    refine JL.pure rfl rfl (OpP.fieldAddr rfl) ?_
    refine JL.pure rfl rfl (OpP.fieldAddr rfl) ?_
    refine JL.read rfl rfl (OpR.load1 rfl (Cell.row (.tail (.tail .head)) rfl)) ?_
    refine JL.pure rfl rfl (OpP.fieldAddr rfl) ?_
    refine JL.pure rfl rfl (OpP.fieldAddr rfl) ?_
    refine JL.read rfl rfl (OpR.load1 rfl (Cell.row (.tail (.tail .head)) rfl)) ?_
    refine JL.pure rfl rfl (OpP.fieldAddr rfl) ?_
    refine JL.pure rfl rfl (OpP.fieldAddr rfl) ?_
    refine JL.read rfl rfl (OpR.load1 rfl (Cell.row (.tail (.tail .head)) rfl)) ?_
    refine JL.mem rfl rfl (by apply OpM.buildSlice (by rfl) rfl (by rfl); (repeat (first | exact Fills.nil | (apply Fills.cons rfl rfl rfl; (case' hs => ((repeat (first | exact Spl.nil | apply Spl.here | apply Spl.there)); done)))))) ?_; rintro _ _ ⟨b39, rfl, rfl⟩
    refine JL.f2 ?_; refine JL.f2 ?_; refine JL.step rfl rfl (OpW.call (first := []) (captured := []) inferInstance rfl rfl (texts3_ok (s := c.row.who) (t := c.row.name) (q := c.row.attr) (by assumption) z1 z2 z3 (by omega) (by first | exact .head | exact .tail .head))) ?_; rintro r40 _ ⟨rfl, ⟨bad'1, ⟨v', ⟨L'1, ⟨h40, ⟨h401, rfl⟩⟩⟩⟩⟩⟩
    refine JL.lit (.tail .head) fun av' cv' ev' => ?_; subst ev'
    refine JL.nil ?_
    refine J.regionD [5] (by kernel_rfl) ?_
    refine DL.pure (i := 0) (by kernel_rfl) (by kernel_rfl) rfl rfl rfl (OpP.move rfl) ?_
    refine DL.pure (i := 1) (by kernel_rfl) (by kernel_rfl) rfl rfl rfl (OpP.nilCheck rfl) ?_
    refine DL.pure (i := 2) (by kernel_rfl) (by kernel_rfl) rfl rfl rfl (OpP.fieldAddr rfl) ?_
    refine DL.pure (i := 3) (by kernel_rfl) (by kernel_rfl) rfl rfl rfl (OpP.fieldAddr rfl) ?_
    refine DL.pure (i := 4) (by kernel_rfl) (by kernel_rfl) rfl rfl rfl (OpP.fieldAddr rfl) ?_
    refine DL.read (i := 5) (by kernel_rfl) (by kernel_rfl) rfl rfl rfl (fun _ h => h) (OpR.loadN rfl (Cells.sub 4 (.tail (.tail (.tail .head))) rfl) rfl) ?_
    refine DL.only (i := 6) (by kernel_rfl) ?_
    refine DL1.stepF rfl rfl rfl (by kernel_rfl) (by exact OpW.call (first := []) (captured := []) inferInstance rfl rfl (pv _ _ _ _ _ (by assumption))) ?_; rintro r47 _ ⟨rfl, ⟨bad'2, ⟨v', ⟨L'2, ⟨h47, ⟨h471, rfl⟩⟩⟩⟩⟩⟩
    refine DL.lit (.tail .head) fun av' cv' ev' => ?_; subst ev'
    refine DL.done (by kernel_rfl) ?_
    refine J.inBlock ?_
    refine J.seq ?_
    refine J.region ?_
    refine JL.pure rfl rfl (OpP.fieldAddr rfl) ?_
    refine JL.read rfl rfl (OpR.load1 rfl (Cell.row (.tail (.tail (.tail .head))) rfl)) ?_
    refine JL.nil ?_
    refine J.block ?_
    refine J.seq ?_
    refine J.region ?_
    refine JL.decF rfl rfl (OpP.eql rfl rfl) (by omega) ?_
    refine JL.pure rfl rfl (OpP.assign rfl) ?_
    refine JL.nil ?_
    refine J.condF rfl ?_
    refine J.seq ?_
    refine J.region ?_
    refine JL.decF rfl rfl (OpP.eql rfl rfl) (by omega) ?_
    refine JL.pure rfl rfl (OpP.assign rfl) ?_
    refine JL.nil ?_
    refine J.condF rfl ?_
    refine J.skip ?_
    refine J.inBlock ?_
    refine J.fin0 rfl ?_
    exact ⟨_, ⟨rfl, bad'2, _, L'2, h47, by rw [h471, h401, h91, cmP, ht]; simp only [allF_cons, allF_append, allF_nil, allF_text, allF_b, allF_s, allF_long, allF_val hv], rfl⟩, fun _ h => Own.pick (pre := [_, _, _, _]) [0, 1] rfl h⟩
  by_cases k3 : c.kind = 3
  · have ht := t3 k3
    refine J.seq ?_
    refine J.region ?_
    refine JL.pure rfl rfl (OpP.fieldAddr rfl) ?_
    refine JL.read rfl rfl (OpR.load1 rfl (Cell.row (.tail (.tail .head)) rfl)) ?_
    refine JL.nil ?_
    refine J.block ?_
    refine J.seq ?_
    refine J.region ?_
    refine JL.decF rfl rfl (OpP.eql rfl rfl) (by omega) ?_
    refine JL.pure rfl rfl (OpP.assign rfl) ?_
    refine JL.nil ?_
    refine J.condF rfl ?_
    refine J.seq ?_
    refine J.region ?_
    refine JL.decF rfl rfl (OpP.eql rfl rfl) (by omega) ?_
    refine JL.pure rfl rfl (OpP.assign rfl) ?_
    refine JL.nil ?_
    refine J.condF rfl ?_
    refine J.seq ?_
    refine J.region ?_
    refine JL.decT rfl rfl (OpP.eql rfl rfl) (by omega) ?_
    refine JL.pure rfl rfl (OpP.assign rfl) ?_
    refine JL.nil ?_
    refine J.condT rfl ?_
    refine J.region ?_
    refine JL.pure rfl rfl (OpP.move rfl) ?_
    refine JL.pure rfl rfl (OpP.fieldAddr rfl) ?_
    refine JL.pure rfl rfl (OpP.fieldAddr rfl) ?_
    refine JL.read rfl rfl (OpR.load1 rfl (Cell.row (.tail (.tail .head)) rfl)) ?_
    refine JL.pure rfl rfl (OpP.fieldAddr rfl) ?_
    refine JL.pure rfl rfl (OpP.fieldAddr rfl) ?_
    refine JL.read rfl rfl (OpR.load1 rfl (Cell.row (.tail (.tail .head)) rfl)) ?_
    refine JL.pure rfl rfl (OpP.fieldAddr rfl) ?_
    refine JL.pure rfl rfl (OpP.fieldAddr rfl) ?_
    refine JL.read rfl rfl (OpR.load1 rfl (Cell.row (.tail (.tail .head)) rfl)) ?_
    refine JL.mem rfl rfl (by apply OpM.buildSlice (by rfl) rfl (by rfl); (repeat (first | exact Fills.nil | (apply Fills.cons rfl rfl rfl; (case' hs => ((repeat (first | exact Spl.nil | apply Spl.here | apply Spl.there)); done)))))) ?_; rintro _ _ ⟨b60, rfl, rfl⟩
    refine JL.f2 ?_; refine JL.f2 ?_; refine JL.step rfl rfl (OpW.call (first := []) (captured := []) inferInstance rfl rfl (texts3_ok (s := c.row.who) (t := c.row.name) (q := c.row.attr) (by assumption) z1 z2 z3 (by omega) (by first | exact .head | exact .tail .head))) ?_; rintro r61 _ ⟨rfl, ⟨bad'1, ⟨v', ⟨L'1, ⟨h61, ⟨h611, rfl⟩⟩⟩⟩⟩⟩
    refine JL.lit (.tail .head) fun av' cv' ev' => ?_; subst ev'
    refine JL.nil ?_
    refine J.inBlock ?_
    refine J.seq ?_
    refine J.region ?_
    refine JL.pure rfl rfl (OpP.fieldAddr rfl) ?_
    refine JL.read rfl rfl (OpR.load1 rfl (Cell.row (.tail (.tail (.tail .head))) rfl)) ?_
    refine JL.nil ?_
    refine J.block ?_
    refine J.seq ?_
    refine J.region ?_
    refine JL.decF rfl rfl (OpP.eql rfl rfl) (by omega) ?_
    refine JL.pure rfl rfl (OpP.assign rfl) ?_
    refine JL.nil ?_
    refine J.condF rfl ?_
    refine J.seq ?_
    refine J.region ?_
    refine JL.decF rfl rfl (OpP.eql rfl rfl) (by omega) ?_
    refine JL.pure rfl rfl (OpP.assign rfl) ?_
    refine JL.nil ?_
    refine J.condF rfl ?_
    refine J.skip ?_
    refine J.inBlock ?_
    refine J.fin0 rfl ?_
    exact ⟨_, ⟨rfl, bad'1, _, L'1, h61, by rw [h611, h91, cmP, ht]; simp only [allF_cons, allF_append, allF_nil, allF_text, allF_b, allF_s, allF_long, allF_val hv], rfl⟩, fun _ h => Own.pick (pre := [_, _, _, _]) [0, 1] rfl h⟩
  by_cases k8 : c.kind = 8
  · have ht := t8 k8
    refine J.seq ?_
    refine J.region ?_
    refine JL.pure rfl rfl (OpP.fieldAddr rfl) ?_
    refine JL.read rfl rfl (OpR.load1 rfl (Cell.row (.tail (.tail .head)) rfl)) ?_
    refine JL.nil ?_
    refine J.block ?_
    refine J.seq ?_
    refine J.region ?_
    refine JL.decF rfl rfl (OpP.eql rfl rfl) (by omega) ?_
    refine JL.pure rfl rfl (OpP.assign rfl) ?_
    refine JL.nil ?_
    refine J.condF rfl ?_
    refine J.seq ?_
    refine J.region ?_
    refine JL.decF rfl rfl (OpP.eql rfl rfl) (by omega) ?_
    refine JL.pure rfl rfl (OpP.assign rfl) ?_
    refine JL.nil ?_
    refine J.condF rfl ?_
    refine J.seq ?_
    refine J.region ?_
    refine JL.decF rfl rfl (OpP.eql rfl rfl) (by omega) ?_
    refine JL.pure rfl rfl (OpP.assign rfl) ?_
    refine JL.nil ?_
    refine J.condF rfl ?_
    refine J.seq ?_
    refine J.region ?_
    refine JL.decF rfl rfl (OpP.eql rfl rfl) (by omega) ?_
    refine JL.pure rfl rfl (OpP.assign rfl) ?_
    refine JL.nil ?_
    refine J.condF rfl ?_
    refine J.seq ?_
    refine J.region ?_
    refine JL.decF rfl rfl (OpP.eql rfl rfl) (by omega) ?_
    refine JL.pure rfl rfl (OpP.assign rfl) ?_
    refine JL.nil ?_
    refine J.condF rfl ?_
    refine J.region ?_
    refine JL.pure rfl rfl (OpP.move rfl) ?_
    refine JL.pure rfl rfl (OpP.fieldAddr rfl) ?_
    refine JL.read rfl rfl (OpR.load1 rfl (Cell.row (.tail (.tail .head)) rfl)) ?_
    refine JL.pure rfl rfl (OpP.fieldAddr rfl) ?_
    refine JL.read rfl rfl (OpR.load1 rfl (Cell.row (.tail (.tail .head)) rfl)) ?_
    refine JL.mem rfl rfl (by apply OpM.buildSlice (by rfl) rfl (by rfl); (repeat (first | exact Fills.nil | (apply Fills.cons rfl rfl rfl; (case' hs => ((repeat (first | exact Spl.nil | apply Spl.here | apply Spl.there)); done)))))) ?_; rintro _ _ ⟨b17, rfl, rfl⟩
    refine JL.f2 ?_; refine JL.f2 ?_; refine JL.step rfl rfl (OpW.call (first := []) (captured := []) inferInstance rfl rfl (texts2_ok (s := c.a) (t := c.b) (by assumption) za zb (by omega) (by first | exact .head | exact .tail .head))) ?_; rintro r18 _ ⟨rfl, ⟨bad'1, ⟨v', ⟨L'1, ⟨h18, ⟨h181, rfl⟩⟩⟩⟩⟩⟩
    refine JL.lit (.tail .head) fun av' cv' ev' => ?_; subst ev'
    refine JL.nil ?_
    refine J.inBlock ?_
    refine J.seq ?_
    refine J.region ?_
    refine JL.pure rfl rfl (OpP.fieldAddr rfl) ?_
    refine JL.read rfl rfl (OpR.load1 rfl (Cell.row (.tail (.tail (.tail .head))) rfl)) ?_
    refine JL.nil ?_
    refine J.block ?_
    refine J.seq ?_
    refine J.region ?_
    refine JL.decT rfl rfl (OpP.eql rfl rfl) (by omega) ?_
    refine JL.pure rfl rfl (OpP.assign rfl) ?_
    refine JL.nil ?_
    refine J.condT rfl ?_
    refine J.seq ?_
    refine J.regionD [4] (by kernel_rfl) ?_
    refine DL.pure (i := 0) (by kernel_rfl) (by kernel_rfl) rfl rfl rfl (OpP.move rfl) ?_
    refine DL.pure (i := 1) (by kernel_rfl) (by kernel_rfl) rfl rfl rfl (OpP.nilCheck rfl) ?_
    refine DL.pure (i := 2) (by kernel_rfl) (by kernel_rfl) rfl rfl rfl (OpP.fieldAddr rfl) ?_
    refine DL.pure (i := 3) (by kernel_rfl) (by kernel_rfl) rfl rfl rfl (OpP.fieldAddr rfl) ?_
    refine DL.read (i := 4) (by kernel_rfl) (by kernel_rfl) rfl rfl rfl (fun _ h => h) (OpR.load1 rfl (Cell.row (.tail (.tail (.tail .head))) rfl)) ?_
    refine DL.only (i := 5) (by kernel_rfl) ?_
    refine DL1.stepF rfl rfl rfl (by kernel_rfl) (by exact OpW.call (first := []) (captured := []) inferInstance rfl rfl (outU8_ok (by assumption))) ?_; rintro r93 _ ⟨rfl, ⟨bad'2, ⟨v', ⟨L'2, ⟨h93, ⟨h931, rfl⟩⟩⟩⟩⟩⟩
    refine DL.lit (.tail .head) fun av' cv' ev' => ?_; subst ev'
    refine DL.done (by kernel_rfl) ?_
    refine J.regionD [4] (by kernel_rfl) ?_
    refine DL.pure (i := 0) (by kernel_rfl) (by kernel_rfl) rfl rfl rfl (OpP.move rfl) ?_
    refine DL.pure (i := 1) (by kernel_rfl) (by kernel_rfl) rfl rfl rfl (OpP.nilCheck rfl) ?_
    refine DL.pure (i := 2) (by kernel_rfl) (by kernel_rfl) rfl rfl rfl (OpP.fieldAddr rfl) ?_
    refine DL.pure (i := 3) (by kernel_rfl) (by kernel_rfl) rfl rfl rfl (OpP.fieldAddr rfl) ?_
    refine DL.read (i := 4) (by kernel_rfl) (by kernel_rfl) rfl rfl rfl (fun _ h => h) (OpR.load1 rfl (Cell.row (.tail (.tail (.tail .head))) rfl)) ?_
    refine DL.only (i := 5) (by kernel_rfl) ?_
    refine DL1.stepF rfl rfl rfl (by kernel_rfl) (by exact OpW.call (first := []) (captured := []) inferInstance rfl rfl (outI64_ok (by assumption))) ?_; rintro r99 _ ⟨rfl, ⟨bad'3, ⟨v', ⟨L'3, ⟨h99, ⟨h991, rfl⟩⟩⟩⟩⟩⟩
    refine DL.lit (.tail .head) fun av' cv' ev' => ?_; subst ev'
    refine DL.done (by kernel_rfl) ?_
    refine J.inBlock ?_
    refine J.fin0 rfl ?_
    exact ⟨_, ⟨rfl, bad'3, _, L'3, h99, by rw [h991, h931, h181, h91, cmP, ht]; simp only [allF_cons, allF_append, allF_nil, allF_text, allF_b, allF_s, allF_long, allF_val hv], rfl⟩, fun _ h => Own.pick (pre := [_, _, _, _]) [0, 1] rfl h⟩
  by_cases k9 : c.kind = 9
  · have ht := t9 k9
    refine J.seq ?_
    refine J.region ?_
    refine JL.pure rfl rfl (OpP.fieldAddr rfl) ?_
    refine JL.read rfl rfl (OpR.load1 rfl (Cell.row (.tail (.tail .head)) rfl)) ?_
    refine JL.nil ?_
    refine J.block ?_
    refine J.seq ?_
    refine J.region ?_
    refine JL.decF rfl rfl (OpP.eql rfl rfl) (by omega) ?_
    refine JL.pure rfl rfl (OpP.assign rfl) ?_
    refine JL.nil ?_
    refine J.condF rfl ?_
    refine J.seq ?_
    refine J.region ?_
    refine JL.decF rfl rfl (OpP.eql rfl rfl) (by omega) ?_
    refine JL.pure rfl rfl (OpP.assign rfl) ?_
    refine JL.nil ?_
    refine J.condF rfl ?_
    refine J.seq ?_
    refine J.region ?_
    refine JL.decF rfl rfl (OpP.eql rfl rfl) (by omega) ?_
    refine JL.pure rfl rfl (OpP.assign rfl) ?_
    refine JL.nil ?_
    refine J.condF rfl ?_
    refine J.seq ?_
    refine J.region ?_
    refine JL.decT rfl rfl (OpP.eql rfl rfl) (by omega) ?_
    refine JL.pure rfl rfl (OpP.assign rfl) ?_
    refine JL.nil ?_
    refine J.condT rfl ?_
    refine J.seq ?_
    refine J.regionD [4] (by kernel_rfl) ?_
    refine DL.pure (i := 0) (by kernel_rfl) (by kernel_rfl) rfl rfl rfl (OpP.move rfl) ?_
    refine DL.pure (i := 1) (by kernel_rfl) (by kernel_rfl) rfl rfl rfl (OpP.nilCheck rfl) ?_
    refine DL.pure (i := 2) (by kernel_rfl) (by kernel_rfl) rfl rfl rfl (OpP.fieldAddr rfl) ?_
    refine DL.pure (i := 3) (by kernel_rfl) (by kernel_rfl) rfl rfl rfl (OpP.fieldAddr rfl) ?_
    refine DL.read (i := 4) (by kernel_rfl) (by kernel_rfl) rfl rfl rfl (fun _ h => h) (OpR.load1 rfl (Cell.row (.tail (.tail .head)) rfl)) ?_
    refine DL.only (i := 5) (by kernel_rfl) ?_
    refine DL1.stepF rfl rfl rfl (by kernel_rfl) (by exact OpW.call (first := []) (captured := []) inferInstance rfl rfl (outText_ok (by assumption) (by omega))) ?_; rintro r69 _ ⟨rfl, ⟨bad'1, ⟨v', ⟨L'1, ⟨h69, ⟨h691, rfl⟩⟩⟩⟩⟩⟩
    refine DL.lit (.tail .head) fun av' cv' ev' => ?_; subst ev'
    refine DL.done (by kernel_rfl) ?_
    refine J.regionD [4] (by kernel_rfl) ?_
    refine DL.pure (i := 0) (by kernel_rfl) (by kernel_rfl) rfl rfl rfl (OpP.move rfl) ?_
    refine DL.pure (i := 1) (by kernel_rfl) (by kernel_rfl) rfl rfl rfl (OpP.nilCheck rfl) ?_
    refine DL.pure (i := 2) (by kernel_rfl) (by kernel_rfl) rfl rfl rfl (OpP.fieldAddr rfl) ?_
    refine DL.pure (i := 3) (by kernel_rfl) (by kernel_rfl) rfl rfl rfl (OpP.fieldAddr rfl) ?_
    refine DL.read (i := 4) (by kernel_rfl) (by kernel_rfl) rfl rfl rfl (fun _ h => h) (OpR.load1 rfl (Cell.row (.tail (.tail .head)) rfl)) ?_
    refine DL.only (i := 5) (by kernel_rfl) ?_
    refine DL1.stepF rfl rfl rfl (by kernel_rfl) (by exact OpW.call (first := []) (captured := []) inferInstance rfl rfl (outU16_ok (by assumption))) ?_; rintro r75 _ ⟨rfl, ⟨bad'2, ⟨v', ⟨L'2, ⟨h75, ⟨h751, rfl⟩⟩⟩⟩⟩⟩
    refine DL.lit (.tail .head) fun av' cv' ev' => ?_; subst ev'
    refine DL.done (by kernel_rfl) ?_
    refine J.inBlock ?_
    refine J.seq ?_
    refine J.region ?_
    refine JL.pure rfl rfl (OpP.fieldAddr rfl) ?_
    refine JL.read rfl rfl (OpR.load1 rfl (Cell.row (.tail (.tail .head)) rfl)) ?_
    refine JL.nil ?_
    refine J.block ?_
    refine J.seq ?_
    refine J.region ?_
    refine JL.decF rfl rfl (OpP.eql rfl rfl) (by omega) ?_
    refine JL.pure rfl rfl (OpP.assign rfl) ?_
    refine JL.nil ?_
    refine J.condF rfl ?_
    refine J.seq ?_
    refine J.region ?_
    refine JL.decF rfl rfl (OpP.eql rfl rfl) (by omega) ?_
    refine JL.pure rfl rfl (OpP.assign rfl) ?_
    refine JL.nil ?_
    refine J.condF rfl ?_
    refine J.skip ?_
    refine J.inBlock ?_
    refine J.fin0 rfl ?_
    exact ⟨_, ⟨rfl, bad'2, _, L'2, h75, by rw [h751, h691, h91, cmP, ht]; simp only [allF_cons, allF_append, allF_nil, allF_text, allF_b, allF_s, allF_long, allF_val hv], rfl⟩, fun _ h => Own.pick (pre := [_, _, _]) [0, 1] rfl h⟩
  by_cases k10 : c.kind = 10
  · have ht := t10 k10
    refine J.seq ?_
    refine J.region ?_
    refine JL.pure rfl rfl (OpP.fieldAddr rfl) ?_
    refine JL.read rfl rfl (OpR.load1 rfl (Cell.row (.tail (.tail .head)) rfl)) ?_
    refine JL.nil ?_
    refine J.block ?_
    refine J.seq ?_
    refine J.region ?_
    refine JL.decF rfl rfl (OpP.eql rfl rfl) (by omega) ?_
    refine JL.pure rfl rfl (OpP.assign rfl) ?_
    refine JL.nil ?_
    refine J.condF rfl ?_
    refine J.seq ?_
    refine J.region ?_
    refine JL.decF rfl rfl (OpP.eql rfl rfl) (by omega) ?_
    refine JL.pure rfl rfl (OpP.assign rfl) ?_
    refine JL.nil ?_
    refine J.condF rfl ?_
    refine J.seq ?_
    refine J.region ?_
    refine JL.decF rfl rfl (OpP.eql rfl rfl) (by omega) ?_
    refine JL.pure rfl rfl (OpP.assign rfl) ?_
    refine JL.nil ?_
    refine J.condF rfl ?_
    refine J.seq ?_
    refine J.region ?_
    refine JL.decF rfl rfl (OpP.eql rfl rfl) (by omega) ?_
    refine JL.pure rfl rfl (OpP.assign rfl) ?_
    refine JL.nil ?_
    refine J.condF rfl ?_
    refine J.seq ?_
    refine J.region ?_
    refine JL.decT rfl rfl (OpP.eql rfl rfl) (by omega) ?_
    refine JL.pure rfl rfl (OpP.assign rfl) ?_
    refine JL.nil ?_
    refine J.condT rfl ?_
    refine J.regionD [4] (by kernel_rfl) ?_
    refine DL.pure (i := 0) (by kernel_rfl) (by kernel_rfl) rfl rfl rfl (OpP.move rfl) ?_
    refine DL.pure (i := 1) (by kernel_rfl) (by kernel_rfl) rfl rfl rfl (OpP.nilCheck rfl) ?_
    refine DL.pure (i := 2) (by kernel_rfl) (by kernel_rfl) rfl rfl rfl (OpP.fieldAddr rfl) ?_
    refine DL.pure (i := 3) (by kernel_rfl) (by kernel_rfl) rfl rfl rfl (OpP.fieldAddr rfl) ?_
    refine DL.read (i := 4) (by kernel_rfl) (by kernel_rfl) rfl rfl rfl (fun _ h => h) (OpR.load1 rfl (Cell.row (.tail (.tail .head)) rfl)) ?_
    refine DL.only (i := 5) (by kernel_rfl) ?_
    refine DL1.stepF rfl rfl rfl (by kernel_rfl) (by exact OpW.call (first := []) (captured := []) inferInstance rfl rfl (outI64_ok (by assumption))) ?_; rintro r83 _ ⟨rfl, ⟨bad'1, ⟨v', ⟨L'1, ⟨h83, ⟨h831, rfl⟩⟩⟩⟩⟩⟩
    refine DL.lit (.tail .head) fun av' cv' ev' => ?_; subst ev'
    refine DL.done (by kernel_rfl) ?_
    refine J.inBlock ?_
    refine J.seq ?_
    refine J.region ?_
    refine JL.pure rfl rfl (OpP.fieldAddr rfl) ?_
    refine JL.read rfl rfl (OpR.load1 rfl (Cell.row (.tail (.tail .head)) rfl)) ?_
    refine JL.nil ?_
    refine J.block ?_
    refine J.seq ?_
    refine J.region ?_
    refine JL.decF rfl rfl (OpP.eql rfl rfl) (by omega) ?_
    refine JL.pure rfl rfl (OpP.assign rfl) ?_
    refine JL.nil ?_
    refine J.condF rfl ?_
    refine J.seq ?_
    refine J.region ?_
    refine JL.decF rfl rfl (OpP.eql rfl rfl) (by omega) ?_
    refine JL.pure rfl rfl (OpP.assign rfl) ?_
    refine JL.nil ?_
    refine J.condF rfl ?_
    refine J.skip ?_
    refine J.inBlock ?_
    refine J.fin0 rfl ?_
    exact ⟨_, ⟨rfl, bad'1, _, L'1, h83, by rw [h831, h91, cmP, ht]; simp only [allF_cons, allF_append, allF_nil, allF_text, allF_b, allF_s, allF_long, allF_val hv], rfl⟩, fun _ h => Own.pick (pre := [_, _, _]) [0, 1] rfl h⟩
  by_cases k11 : c.kind = 11
  · have ht := t11 k11
    refine J.seq ?_
    refine J.region ?_
    refine JL.pure rfl rfl (OpP.fieldAddr rfl) ?_
    refine JL.read rfl rfl (OpR.load1 rfl (Cell.row (.tail (.tail .head)) rfl)) ?_
    refine JL.nil ?_
    refine J.block ?_
    refine J.seq ?_
    refine J.region ?_
    refine JL.decF rfl rfl (OpP.eql rfl rfl) (by omega) ?_
    refine JL.pure rfl rfl (OpP.assign rfl) ?_
    refine JL.nil ?_
    refine J.condF rfl ?_
    refine J.seq ?_
    refine J.region ?_
    refine JL.decF rfl rfl (OpP.eql rfl rfl) (by omega) ?_
    refine JL.pure rfl rfl (OpP.assign rfl) ?_
    refine JL.nil ?_
    refine J.condF rfl ?_
    refine J.seq ?_
    refine J.region ?_
    refine JL.decF rfl rfl (OpP.eql rfl rfl) (by omega) ?_
    refine JL.pure rfl rfl (OpP.assign rfl) ?_
    refine JL.nil ?_
    refine J.condF rfl ?_
    refine J.seq ?_
    refine J.region ?_
    refine JL.decF rfl rfl (OpP.eql rfl rfl) (by omega) ?_
    refine JL.pure rfl rfl (OpP.assign rfl) ?_
    refine JL.nil ?_
    refine J.condF rfl ?_
    refine J.seq ?_
    refine J.region ?_
    refine JL.decF rfl rfl (OpP.eql rfl rfl) (by omega) ?_
    refine JL.pure rfl rfl (OpP.assign rfl) ?_
    refine JL.nil ?_
    refine J.condF rfl ?_
    refine J.region ?_
    refine JL.pure rfl rfl (OpP.move rfl) ?_
    refine JL.pure rfl rfl (OpP.fieldAddr rfl) ?_
    refine JL.read rfl rfl (OpR.load1 rfl (Cell.row (.tail (.tail .head)) rfl)) ?_
    refine JL.pure rfl rfl (OpP.fieldAddr rfl) ?_
    refine JL.read rfl rfl (OpR.load1 rfl (Cell.row (.tail (.tail .head)) rfl)) ?_
    refine JL.mem rfl rfl (by apply OpM.buildSlice (by rfl) rfl (by rfl); (repeat (first | exact Fills.nil | (apply Fills.cons rfl rfl rfl; (case' hs => ((repeat (first | exact Spl.nil | apply Spl.here | apply Spl.there)); done)))))) ?_; rintro _ _ ⟨b17, rfl, rfl⟩
    refine JL.f2 ?_; refine JL.f2 ?_; refine JL.step rfl rfl (OpW.call (first := []) (captured := []) inferInstance rfl rfl (texts2_ok (s := c.a) (t := c.b) (by assumption) za zb (by omega) (by first | exact .head | exact .tail .head))) ?_; rintro r18 _ ⟨rfl, ⟨bad'1, ⟨v', ⟨L'1, ⟨h18, ⟨h181, rfl⟩⟩⟩⟩⟩⟩
    refine JL.lit (.tail .head) fun av' cv' ev' => ?_; subst ev'
    refine JL.nil ?_
    refine J.inBlock ?_
    refine J.seq ?_
    refine J.region ?_
    refine JL.pure rfl rfl (OpP.fieldAddr rfl) ?_
    refine JL.read rfl rfl (OpR.load1 rfl (Cell.row (.tail (.tail (.tail .head))) rfl)) ?_
    refine JL.nil ?_
    refine J.block ?_
    refine J.seq ?_
    refine J.region ?_
    refine JL.decF rfl rfl (OpP.eql rfl rfl) (by omega) ?_
    refine JL.pure rfl rfl (OpP.assign rfl) ?_
    refine JL.nil ?_
    refine J.condF rfl ?_
    refine J.seq ?_
    refine J.region ?_
    refine JL.decT rfl rfl (OpP.eql rfl rfl) (by omega) ?_
    refine JL.pure rfl rfl (OpP.assign rfl) ?_
    refine JL.nil ?_
    refine J.condT rfl ?_
    refine J.region ?_
    refine JL.pure rfl rfl (OpP.move rfl) ?_
    refine JL.pure rfl rfl (OpP.fieldAddr rfl) ?_
    refine JL.read rfl rfl (OpR.load1 rfl (Cell.row (.tail (.tail (.tail .head))) rfl)) ?_
    refine JL.step rfl rfl (OpW.call (first := []) (captured := []) inferInstance rfl rfl (ph _ _ _ _ _ (by assumption))) ?_; rintro r105 _ ⟨rfl, ⟨bad'2, ⟨v', ⟨L'2, ⟨h105, ⟨h1051, rfl⟩⟩⟩⟩⟩⟩
    refine JL.lit (.tail .head) fun av' cv' ev' => ?_; subst ev'
    refine JL.nil ?_
    refine J.inBlock ?_
    refine J.fin0 rfl ?_
    exact ⟨_, ⟨rfl, bad'2, _, L'2, h105, by rw [h1051, h181, h91, cmP, ht]; simp only [allF_cons, allF_append, allF_nil, allF_text, allF_b, allF_s, allF_long, allF_val hv], rfl⟩, fun _ h => Own.pick (pre := [_, _, _, _]) [0, 1] rfl h⟩
  have ht := td k1 k2 k3 k8 k9 k10 k11
  refine J.seq ?_
  refine J.region ?_
  refine JL.pure rfl rfl (OpP.fieldAddr rfl) ?_
  refine JL.read rfl rfl (OpR.load1 rfl (Cell.row (.tail (.tail .head)) rfl)) ?_
  refine JL.nil ?_
  refine J.block ?_
  refine J.seq ?_
  refine J.region ?_
  refine JL.decF rfl rfl (OpP.eql rfl rfl) (by omega) ?_
  refine JL.pure rfl rfl (OpP.assign rfl) ?_
  refine JL.nil ?_
  refine J.condF rfl ?_
  refine J.seq ?_
  refine J.region ?_
  refine JL.decF rfl rfl (OpP.eql rfl rfl) (by omega) ?_
  refine JL.pure rfl rfl (OpP.assign rfl) ?_
  refine JL.nil ?_
  refine J.condF rfl ?_
  refine J.seq ?_
  refine J.region ?_
  refine JL.decF rfl rfl (OpP.eql rfl rfl) (by omega) ?_
  refine JL.pure rfl rfl (OpP.assign rfl) ?_
  refine JL.nil ?_
  refine J.condF rfl ?_
  refine J.seq ?_
  refine J.region ?_
  refine JL.decF rfl rfl (OpP.eql rfl rfl) (by omega) ?_
  refine JL.pure rfl rfl (OpP.assign rfl) ?_
  refine JL.nil ?_
  refine J.condF rfl ?_
  refine J.seq ?_
  refine J.region ?_
  refine JL.decF rfl rfl (OpP.eql rfl rfl) (by omega) ?_
  refine JL.pure rfl rfl (OpP.assign rfl) ?_
  refine JL.nil ?_
  refine J.condF rfl ?_
  refine J.region ?_
  refine JL.pure rfl rfl (OpP.move rfl) ?_
  refine JL.pure rfl rfl (OpP.fieldAddr rfl) ?_
  refine JL.read rfl rfl (OpR.load1 rfl (Cell.row (.tail (.tail .head)) rfl)) ?_
  refine JL.pure rfl rfl (OpP.fieldAddr rfl) ?_
  refine JL.read rfl rfl (OpR.load1 rfl (Cell.row (.tail (.tail .head)) rfl)) ?_
  refine JL.mem rfl rfl (by apply OpM.buildSlice (by rfl) rfl (by rfl); (repeat (first | exact Fills.nil | (apply Fills.cons rfl rfl rfl; (case' hs => ((repeat (first | exact Spl.nil | apply Spl.here | apply Spl.there)); done)))))) ?_; rintro _ _ ⟨b17, rfl, rfl⟩
  refine JL.f2 ?_; refine JL.f2 ?_; refine JL.step rfl rfl (OpW.call (first := []) (captured := []) inferInstance rfl rfl (texts2_ok (s := c.a) (t := c.b) (by assumption) za zb (by omega) (by first | exact .head | exact .tail .head))) ?_; rintro r18 _ ⟨rfl, ⟨bad'1, ⟨v', ⟨L'1, ⟨h18, ⟨h181, rfl⟩⟩⟩⟩⟩⟩
  refine JL.lit (.tail .head) fun av' cv' ev' => ?_; subst ev'
  refine JL.nil ?_
  refine J.inBlock ?_
  refine J.seq ?_
  refine J.region ?_
  refine JL.pure rfl rfl (OpP.fieldAddr rfl) ?_
  refine JL.read rfl rfl (OpR.load1 rfl (Cell.row (.tail (.tail (.tail .head))) rfl)) ?_
  refine JL.nil ?_
  refine J.block ?_
  refine J.seq ?_
  refine J.region ?_
  refine JL.decF rfl rfl (OpP.eql rfl rfl) (by omega) ?_
  refine JL.pure rfl rfl (OpP.assign rfl) ?_
  refine JL.nil ?_
  refine J.condF rfl ?_
  refine J.seq ?_
  refine J.region ?_
  refine JL.decF rfl rfl (OpP.eql rfl rfl) (by omega) ?_
  refine JL.pure rfl rfl (OpP.assign rfl) ?_
  refine JL.nil ?_
  refine J.condF rfl ?_
  refine J.skip ?_
  refine J.inBlock ?_
  refine J.fin0 rfl ?_
  exact ⟨_, ⟨rfl, bad'1, _, L'1, h18, by rw [h181, h91, cmP, ht]; simp only [allF_cons, allF_append, allF_nil, allF_text, allF_b, allF_s, allF_long, allF_val hv], rfl⟩, fun _ h => Own.pick (pre := [_, _, _, _]) [0, 1] rfl h⟩
end Go.Proofs.E

-- seat e
namespace Go.Proofs.E
open Go Go.Gp Go.RowKit

noncomputable def cmO (c : Cm) : Option (List UInt8) := allF (some []) (cmP c)
theorem encCm_ok {w0 : World} {F : List HProp} {c : Cm} (hc : CmOk w0 F c) (hz : CmSz c) :
    FnO Try.prog w0 46 [.agg c.cells.toArray] F (EncP (MayP c) (cmO c) F) := by
  have p1 := fun (A : HProp) => formedC_ok (F := A :: F) hc.sub
  refine FnO.weak ?_
  refine FnO.intro (n := 14) Try.func46 rfl rfl rfl ?_
  refine J.seq ?_
  refine J.region ?_
  refine JL.mem rfl rfl (OpM.box rfl rfl) ?_; rintro _ _ ⟨b1, rfl, rfl⟩
  refine JL.pure rfl rfl (OpP.assign rfl) ?_
  refine JL.pure rfl rfl (OpP.assign rfl) ?_
  refine JL.nil ?_
  refine J.seq ?_
  refine J.seq ?_
  refine J.region ?_
  refine JL.read rfl rfl (OpR.loadN rfl (Cells.full .head) rfl) ?_
  refine JL.step rfl rfl (OpW.call (first := []) (captured := []) inferInstance rfl rfl (p1 _)) ?_; rintro r6 _ ⟨b, ⟨rfl, ⟨rfl, h6⟩⟩⟩
  refine JL.pure rfl rfl (OpP.notB rfl) ?_
  refine JL.nil ?_
  refine J.splitAt 7 rfl (fun h7 => ?_) (fun h7 => ?_)
  focus
    refine J.condT rfl ?_
    refine J.seq ?_
    refine J.region ?_
    refine JL.pure rfl rfl (OpP.assign rfl) ?_
    refine JL.pure rfl rfl (OpP.assign rfl) ?_
    refine JL.nil ?_
    refine J.ret2 rfl rfl rfl ?_
  rotate_left 1
  focus
    refine J.condF rfl ?_
    refine J.skip ?_
    refine J.seq ?_
    refine J.region ?_
    refine JL.mem rfl rfl OpM.alloc ?_; rintro _ _ ⟨b4, rfl, rfl⟩
    refine JL.nil ?_
  rotate_left 1
  · exact ⟨_, .inr (.inr ⟨fun q => (by have := h6.2 ((may_iff c).1 q); rw [this] at h7; cases h7), rfl, rfl⟩), fun _ h => h.tail⟩
  have hm : MayP c := (may_iff c).2 (h6.1 (by cases b <;> first | rfl | cases h7))
  refine J.conv (l' := outL 105 b4 false (.slice none 0 0) [] (row b1 66 c.cells :: F)) (fun _ h => Own.f1 (Own.own_nil h)) ?_
  have pw := wcmd_ok (w0 := w0) (F := row b1 66 c.cells :: F) (oe := 105) (g := b4) (bad := false) (v := .slice none 0 0) (L := []) (c := c) (Nat.zero_le _) hc.sub hz (fun h hh => by obtain ⟨j, hj⟩ := List.getElem?_of_mem hh; exact hm.2.2.2.2 j h hj) hm.2.2.2.1.2.2.2.2
  refine J.seq ?_
  refine J.region ?_
  refine JL.read rfl rfl (OpR.loadN rfl (Cells.full (.tail (.tail .head))) rfl) ?_
  refine JL.step rfl rfl (OpW.call (first := []) (captured := []) inferInstance rfl rfl pw) ?_; rintro r9 _ ⟨rfl, ⟨bad', ⟨v', ⟨L', ⟨h9, ⟨h91, rfl⟩⟩⟩⟩⟩⟩
  refine JL.lit (.tail .head) fun av' cv' ev' => ?_; subst ev'
  refine JL.nil ?_
  have hb : absO bad' L' = cmO c := h91
  cases bad'
  · refine J.seq ?_
    refine J.region ?_
    refine JL.pure rfl rfl (OpP.fieldAddr rfl) ?_
    refine JL.step rfl rfl (OpW.call (first := []) (captured := []) inferInstance rfl rfl (endGood h9)) ?_; rintro r11 _ ⟨a, ⟨c1, ⟨rfl, rfl⟩⟩⟩
    refine JL.pure rfl rfl (OpP.extract rfl rfl) ?_
    refine JL.pure rfl rfl (OpP.extract rfl rfl) ?_
    refine JL.pure rfl rfl (OpP.assign rfl) ?_
    refine JL.pure rfl rfl (OpP.assign rfl) ?_
    refine JL.nil ?_
    refine J.ret2 rfl rfl rfl ?_
    exact ⟨_, .inl ⟨L', _, _, hm, hb.symm, h9, rfl, rfl⟩, fun _ h => Own.pick (pre := [_, _, _, _]) [0] rfl h⟩
  · refine J.seq ?_
    refine J.region ?_
    refine JL.pure rfl rfl (OpP.fieldAddr rfl) ?_
    refine JL.step rfl rfl (OpW.call (first := []) (captured := []) inferInstance rfl rfl (endBad h9)) ?_; rintro r11 _ ⟨rfl, rfl⟩
    refine JL.pure rfl rfl (OpP.extract rfl rfl) ?_
    refine JL.pure rfl rfl (OpP.extract rfl rfl) ?_
    refine JL.pure rfl rfl (OpP.assign rfl) ?_
    refine JL.pure rfl rfl (OpP.assign rfl) ?_
    refine JL.nil ?_
    refine J.ret2 rfl rfl rfl ?_
    exact ⟨_, .inr (.inl ⟨hm, hb.symm, rfl, rfl⟩), fun _ h => Own.pick (pre := [_, _, _]) [] rfl h⟩
abbrev tickC : Cm := ⟨10, [], zRw, [], [], 0, 5, [], none, 0⟩
theorem zVa_fm : zVa.Fm := by
  unfold Va.Fm FormedP
  rw [if_pos (by decide)]
  exact ⟨rfl, .inr rfl, .inl ⟨rfl, rfl⟩⟩
theorem tick_may : MayP tickC := by
  refine ⟨⟨⟨by decide, by decide⟩, .inr rfl, .inr (.inr rfl), .inr (.inl rfl), .inr rfl⟩, ⟨.inr (.inr ⟨rfl, rfl, rfl⟩), .inr VaEq.rfl⟩, ⟨.inr ⟨rfl, rfl⟩, .inr rfl⟩, ⟨by decide, .inl (by decide), by decide, by decide, zVa_fm⟩, fun j h hj => by simp at hj⟩
theorem tick_cmO : cmO tickC = some [10, 0, 0, 0, 0, 0, 0, 0, 5] := by
  have ht := (tail_of tickC).2.2.2.2.2.1 rfl
  rw [cmO, cmP, ht]
  simp only [allF_cons, allF_nil, allF_b, allF_long]
  decide
theorem awake36_ok {w0 : World} {F : List HProp} : FnO Try.prog w0 36 [] F (fun r l' => r = .bool true ∧ l' = F) := by
  have pe : FnO Try.prog w0 46 [.agg tickC.cells.toArray] F (fun r l' => ∃ a c, r = .tuple #[.slice a 9 c, .int .i64 0] ∧ l' = own 5 1 (.slice a 9 c) 9 (bcells [10, 0, 0, 0, 0, 0, 0, 0, 5]) :: F) := by
    refine (encCm_ok (c := tickC) ⟨vOk_z, hsOk_z⟩ ⟨Nat.zero_le _, Nat.zero_le _, Nat.zero_le _, Nat.zero_le _, Nat.zero_le _, Nat.zero_le _, by simp, few_zVa⟩).mono fun r l' h => ?_
    rcases h with ⟨bs, a, c, _, h2, _, h3, h4⟩ | ⟨_, h2, _⟩ | ⟨h1, _⟩
    · rw [tick_cmO] at h2
      obtain rfl := Option.some.inj h2
      exact ⟨a, c, h3, h4⟩
    · rw [tick_cmO] at h2; cases h2
    · exact absurd tick_may h1
  refine FnO.weak ?_
  refine FnO.intro (n := 27) Try.func36 rfl rfl rfl ?_
  have h0 : (bcells [10, 0, 0, 0, 0, 0, 0, 0, 5])[0]? = some (.int .u8 10) := rfl
  have h8 : (bcells [10, 0, 0, 0, 0, 0, 0, 0, 5])[8]? = some (.int .u8 5) := rfl
  refine J.seq ?_
  refine J.region ?_
  refine JL.pure rfl rfl (OpP.assign rfl) ?_
  refine JL.nil ?_
  refine J.seq ?_
  refine J.region ?_
  refine JL.pure rfl rfl (OpP.build rfl (by (repeat (first | exact Fills.nil | (apply Fills.cons rfl rfl rfl; (case' hs => ((repeat (first | exact Spl.nil | apply Spl.here | apply Spl.there)); done))))))) ?_
  refine JL.step rfl rfl (OpW.call (first := []) (captured := []) inferInstance rfl rfl pe) ?_; rintro r5 _ ⟨a, ⟨c, ⟨rfl, rfl⟩⟩⟩
  refine JL.pure rfl rfl (OpP.move rfl) ?_
  refine JL.pure rfl rfl (OpP.extract rfl rfl) ?_
  refine JL.pure rfl rfl (OpP.extract rfl rfl) ?_
  refine JL.pure rfl rfl (OpP.assign rfl) ?_
  refine JL.pure rfl rfl (OpP.assign rfl) ?_
  refine JL.nil ?_
  refine J.seq ?_
  refine J.region ?_
  refine JL.pure rfl rfl (OpP.move rfl) ?_
  refine JL.decT rfl rfl (OpP.eql rfl rfl) (by omega) ?_
  refine JL.pure rfl rfl (OpP.move rfl) ?_
  refine JL.pure rfl rfl (OpP.move rfl) ?_
  refine JL.pure rfl rfl (OpP.len rfl rfl) ?_
  refine JL.decT rfl rfl (OpP.eql rfl rfl) (by omega) ?_
  refine JL.pure rfl rfl (OpP.pickT rfl rfl) ?_
  refine JL.pure rfl rfl (OpP.move rfl) ?_
  refine JL.pure rfl rfl (OpP.move rfl) ?_
  refine JL.ownSome .head (by omega) fun ga pa ea ka => ?_; subst ea
  refine JL.pure rfl rfl (OpP.indexAddr rfl rfl (by omega) (by omega)) ?_
  refine JL.read rfl rfl (OpR.load1 rfl (by apply Cells.cell (hv := h0) (Cells.own .head) (fun _ h => h); omega)) ?_
  refine JL.decT rfl rfl (OpP.eql rfl rfl) (by omega) ?_
  refine JL.pure rfl rfl (OpP.pickT rfl rfl) ?_
  refine JL.pure rfl rfl (OpP.move rfl) ?_
  refine JL.pure rfl rfl (OpP.move rfl) ?_
  refine JL.pure rfl rfl (OpP.indexAddr rfl rfl (by omega) (by omega)) ?_
  refine JL.read rfl rfl (OpR.load1 rfl (by apply Cells.cell (hv := h8) (Cells.own .head) (fun _ h => h); omega)) ?_
  refine JL.decT rfl rfl (OpP.eql rfl rfl) (by omega) ?_
  refine JL.pure rfl rfl (OpP.pickT rfl rfl) ?_
  refine JL.pure rfl rfl (OpP.assign rfl) ?_
  refine JL.nil ?_
  refine J.ret1 rfl rfl ?_
  exact ⟨_, ⟨rfl, rfl⟩, fun _ h => h.tail⟩
end Go.Proofs.E

-- seat e
namespace Go.Proofs.E
open Go Go.Gp Go.RowKit

section
variable {w0 : World} {F l : List HProp} {f : FuncId} {args : List Value} {ok : Prop} {o : Option (List UInt8)}
theorem enc1 {bs : List UInt8} (h : FnO Try.prog w0 f args l (EncP ok o F)) (hk : ok) (ho : o = some bs) : FnO Try.prog w0 f args l (fun v l' => ∃ a c, v = .tuple #[.slice a bs.length c, .int .i64 0] ∧ l' = own 5 1 (.slice a bs.length c) bs.length (bcells bs) :: F) :=
  h.mono fun v l' h => by
    rcases h with ⟨bs', a, c, _, h2, _, h3, h4⟩ | ⟨_, h2, _⟩ | ⟨h1, _⟩
    · rw [ho] at h2
      obtain rfl := Option.some.inj h2
      exact ⟨a, c, h3, h4⟩
    · rw [ho] at h2; cases h2
    · exact absurd hk h1
theorem enc2 (h : FnO Try.prog w0 f args l (EncP ok o F)) (hk : ok) (ho : o = none) : FnO Try.prog w0 f args l (fun v l' => v = .tuple #[.slice none 0 0, .int .i64 3] ∧ l' = F) :=
  h.mono fun v l' h => by
    rcases h with ⟨bs', a, c, _, h2, _⟩ | ⟨_, _, h2⟩ | ⟨h1, _⟩
    · rw [ho] at h2; cases h2
    · exact h2
    · exact absurd hk h1
theorem enc3 (h : FnO Try.prog w0 f args l (EncP ok o F)) (hk : ¬ ok) : FnO Try.prog w0 f args l (fun v l' => v = .tuple #[.slice none 0 0, .int .i64 1] ∧ l' = F) :=
  h.mono fun v l' h => by
    rcases h with ⟨bs', a, c, h1, _⟩ | ⟨h1, _⟩ | ⟨_, h1⟩
    · exact absurd h1 hk
    · exact absurd h1 hk
    · exact h1
end
theorem text_complete {s R : List UInt8} (h : s.length ≤ 4096) : textR (some (be s.length 2 ++ (s ++ R))) 4096 = some R ∧ textV (some (be s.length 2 ++ (s ++ R))) 4096 = s := by
  obtain ⟨g1, g2⟩ := num_be (n := s.length) (k := 2) (R := s ++ R) (by omega)
  obtain ⟨g3, g4⟩ := rest_app (L := s) (R := R)
  have g2' : restO (some (be s.length 2 ++ (s ++ R))) 2 = some (s ++ R) := g2
  exact ⟨by rw [textR, g1, if_neg (by omega), g2', g3], by rw [textV, g1, if_neg (by omega), g2', g4]⟩
theorem restP_cons {p : Pa} {ps : List Pa} {bs : List UInt8} (h : partB p = some bs) : restP (p :: ps) = bs ++ restP ps := by rw [restP, List.flatMap_cons, h]; rfl
theorem restP_app {ps qs : List Pa} : restP (ps ++ qs) = restP ps ++ restP qs := List.flatMap_append
theorem partB_text {s bs : List UInt8} (h : partB (pTxt 5 s) = some bs) : s.length ≤ 4096 ∧ bs = be s.length 2 ++ s := by
  rw [partB, if_neg (by dsimp only; decide), if_neg (by dsimp only; decide), if_neg (by dsimp only; decide), if_neg (by dsimp only; decide), if_neg (by dsimp only; decide), if_pos (by dsimp only; decide)] at h
  dsimp only at h
  split at h
  · cases h
  · exact ⟨by omega, (Option.some.inj h).symm⟩
theorem partB_b {n : Int} (h0 : 0 ≤ n) (h1 : n ≤ 255) : partB (pNum 0 n) = some (be n.toNat 1) := by rw [partB, if_pos (by dsimp only; decide)]; dsimp only; rw [if_neg (by omega)]
theorem partB_s {n : Int} (h0 : 0 ≤ n) (h1 : n ≤ 65535) : partB (pNum 1 n) = some (be n.toNat 2) := by rw [partB, if_neg (by dsimp only; decide), if_pos (by dsimp only; decide)]; dsimp only; rw [if_neg (by omega)]
end Go.Proofs.E

-- seat e
namespace Go.Proofs.E
open Go Go.Gp Go.RowKit

theorem Rp.Rd.conv {w0 : World} {F G : List HProp} {r : Rp} (hl : ∀ w, Own w0 w G → Own w0 w F) (h : r.Rd w0 F) : r.Rd w0 G := ⟨h.dn, h.an, h.dr.conv hl, h.ar.conv hl⟩
theorem Rp.Rd.any {w0 : World} {G : List HProp} {r : Rp} (h : r.Rd w0 []) : r.Rd w0 G := h.conv fun _ h => h.none
theorem allF_le : ∀ {ps : List Pa} {M L : List UInt8}, M.length ≤ 4096 → allF (some M) ps = some L → L.length ≤ 4096
  | [], M, L, h, h2 => by obtain rfl := Option.some.inj h2; exact h
  | p :: ps, M, L, h, h2 => by
    rw [allF_cons] at h2
    cases hp : partB p with
    | none => rw [hp] at h2; rw [show (none : Option (List UInt8)).bind (putO (some M)) = none from rfl, allF_none] at h2; cases h2
    | some bs =>
      rw [hp, Option.bind_some] at h2
      cases hq : putO (some M) bs with
      | none => rw [hq, allF_none] at h2; cases h2
      | some Q => rw [hq] at h2; exact allF_le (putO_le hq) h2
theorem Fm.texts {w0 : World} {v : Value} (h : Fm Try.prog w0 70 [v]) : ∃ a c, ∃ ts : List (List UInt8), ts.length ≤ 9223372036854775807 ∧ v = .slice a ts.length c ∧ ∀ l, RdO w0 l (.slice a ts.length c) ts.length (tcl ts) := by
  obtain ⟨xs, hl, hr⟩ := h.strs (e := 9) (by kernel_rfl) (by kernel_rfl) (by kernel_rfl)
  obtain ⟨a, c, e⟩ := hr.lit
  have he : xs.map Value.string = tcl (xs.map fun s => s.data.toList) := by
    rw [tcl, List.map_map]
    apply List.map_congr_left
    intro s _
    simp [strB]
  have hm2 : maxLen ≤ 9223372036854775807 := by decide
  subst e
  refine ⟨a, c, xs.map fun s => s.data.toList, by rw [List.length_map]; omega, by rw [List.length_map], fun l => ?_⟩
  rw [List.length_map, ← he]
  exact hr.o.conv fun _ h => h.none
theorem Fm.rep {w0 : World} {cs : List Value} (h : Fm Try.prog w0 74 cs) : ∃ r : Rp, (∀ l, r.Rd w0 l) ∧ cs = r.cells := by
  have h := h.fields (l := [(41, 1), (3, 1), (72, 3)]) (by kernel_rfl)
  obtain ⟨c0, cs, rfl, f0, h⟩ := h.one
  obtain ⟨c1, cs, rfl, f1, h⟩ := h.one
  obtain ⟨d, cs, rfl, _, f2, h⟩ := h.many
  cases h
  obtain ⟨err, e0, _⟩ := f0.int (k := .i64) (by kernel_rfl)
  obtain ⟨num, e1, _⟩ := f1.int (k := .i64) (by kernel_rfl)
  have h := f2.fields (l := [(3, 1), (70, 1), (70, 1)]) (by kernel_rfl)
  obtain ⟨c3, cs, rfl, f3, h⟩ := h.one
  obtain ⟨c4, cs, rfl, f4, h⟩ := h.one
  obtain ⟨c5, cs, rfl, f5, h⟩ := h.one
  cases h
  obtain ⟨ans, e3, _⟩ := f3.int (k := .i64) (by kernel_rfl)
  obtain ⟨da, dc, du, hd, rfl, rd⟩ := Fm.texts f4
  obtain ⟨aa, ac, ad, ha, rfl, ra⟩ := Fm.texts f5
  cases e0; cases e1; cases e3
  exact ⟨⟨err, num, ans, du, ad, da, dc, aa, ac⟩, fun l => ⟨hd, ha, rd l, ra l⟩, rfl⟩
end Go.Proofs.E
