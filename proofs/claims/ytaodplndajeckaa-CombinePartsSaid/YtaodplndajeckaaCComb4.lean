/- A text of the proof of a statement about the given program: its part CComb4. No person has read it. -/
import Derived.Test.YtaodplndajeckaaCComb3
import Derived.Test.YtaodplndajeckaaJ19
-- seat c
namespace Go.Proofs.C
open Go Go.Gp Go.RowKit

def cnts (l : List Int) : List Int := [(l.count 0 : Nat), (l.count 1 : Nat), (l.count 2 : Nat), (l.count 3 : Nat), (l.count 4 : Nat), (l.count 5 : Nat)]
theorem cnts_get {l : List Int} {x : Int} (h0 : 0 ≤ x) (h5 : x ≤ 5) : (icells (cnts l))[x.toNat]? = some (.int .i64 (l.count x : Nat)) := by
  have : x = 0 ∨ x = 1 ∨ x = 2 ∨ x = 3 ∨ x = 4 ∨ x = 5 := by omega
  rcases this with rfl | rfl | rfl | rfl | rfl | rfl <;> rfl
theorem cnts_set {l : List Int} {x : Int} (h0 : 0 ≤ x) (h5 : x ≤ 5) : (icells (cnts l)).set (0 + x.toNat * 1) (.int .i64 ((l.count x : Nat) + 1)) = icells (cnts (l ++ [x])) := by
  have : x = 0 ∨ x = 1 ∨ x = 2 ∨ x = 3 ∨ x = 4 ∨ x = 5 := by omega
  rcases this with rfl | rfl | rfl | rfl | rfl | rfl <;> simp [icells, cnts, List.count_append]
def overB (st wk pe ot d5 : Bool) (s w p o : Int) : Int := if st then s else if d5 || pe && (ot || wk) then 5 else if pe then p else if wk then w else if ot then o else 0
theorem over1_ok {w0 : World} {F : List HProp} {l : List Int} (hl : l.length ≤ 1000) : FnO Try.prog w0 42 [.agg (icells (cnts l)).toArray, .int .i64 2, .int .i64 1, .int .i64 4, .int .i64 3] F
    (fun v l' => v = .int .i64 (overB (decide (2 ∈ l)) (decide (1 ∈ l)) (decide (4 ∈ l)) (decide (3 ∈ l)) (decide (5 ∈ l)) 2 1 4 3) ∧ l' = F) := by
  refine FnO.weak ?_
  refine FnO.intro (n := 50) Try.func42 rfl rfl rfl ?_
  have c : ∀ x, (l.count x ≤ 1000) ∧ (x ∈ l ↔ 0 < l.count x) := fun x => ⟨Nat.le_trans List.count_le_length hl, List.count_pos_iff.symm⟩
  have c1 := c 1
  have c2 := c 2
  have c3 := c 3
  have c4 := c 4
  have c5 := c 5
  clear c
  rw [show decide (2 ∈ l) = decide (0 < l.count 2) by simp only [c2.2], show decide (1 ∈ l) = decide (0 < l.count 1) by simp only [c1.2], show decide (3 ∈ l) = decide (0 < l.count 3) by simp only [c3.2], show decide (4 ∈ l) = decide (0 < l.count 4) by simp only [c4.2], show decide (5 ∈ l) = decide (0 < l.count 5) by simp only [c5.2]]
  simp only [cnts]
  generalize l.count 0 = n0
  generalize l.count 1 = n1 at *
  generalize l.count 2 = n2 at *
  generalize l.count 3 = n3 at *
  generalize l.count 4 = n4 at *
  generalize l.count 5 = n5 at *
  refine J.seq ?_
  refine J.region ?_
  refine JL.mem rfl rfl (OpM.box rfl rfl) ?_; rintro _ _ ⟨b5, rfl, rfl⟩
  refine JL.pure rfl rfl (OpP.assign rfl) ?_
  refine JL.nil ?_
  refine J.seq ?_
  refine J.seq ?_
  refine J.region ?_
  refine JL.pure rfl rfl (OpP.move rfl) ?_
  refine JL.pure rfl rfl (OpP.indexAddrA rfl rfl (by omega) (by omega)) ?_
  refine JL.read rfl rfl (OpR.load1 rfl (Cell.row .head rfl)) ?_
  refine JL.dec rfl rfl (OpP.gtr rfl rfl) (fun h14 => ?_) (fun h14 => ?_)
  focus
    refine JL.nil ?_
    refine J.condT rfl ?_
    refine J.seq ?_
    refine J.region ?_
    refine JL.pure rfl rfl (OpP.move rfl) ?_
    refine JL.pure rfl rfl (OpP.assign rfl) ?_
    refine JL.nil ?_
    refine J.ret1 rfl rfl ?_
  rotate_left 1
  focus
    refine JL.nil ?_
    refine J.condF rfl ?_
    refine J.skip ?_
    refine J.seq ?_
    refine J.seq ?_
    refine J.regionD [1, 6, 11, 14] (by kernel_rfl) ?_
    refine DL.pure (i := 0) (by kernel_rfl) (by kernel_rfl) rfl rfl rfl (OpP.indexAddrA rfl rfl (by omega) (by omega)) ?_
    refine DL.read (i := 1) (by kernel_rfl) (by kernel_rfl) rfl rfl rfl (fun _ h => h) (OpR.load1 rfl (Cell.row .head rfl)) ?_
    refine DL.dec (i := 2) (by kernel_rfl) (by kernel_rfl) rfl rfl rfl (OpP.gtr rfl rfl) (fun h18 => ?_) (fun h18 => ?_)
    focus
      refine DL.pure (i := 3) (by kernel_rfl) (by kernel_rfl) rfl rfl rfl (OpP.move rfl) ?_
      refine DL.skip (i := 4) (by kernel_rfl) (by kernel_rfl) rfl rfl rfl ?_
      refine DL.skip (i := 5) (by kernel_rfl) (by kernel_rfl) rfl rfl rfl ?_
      refine DL.skip (i := 6) (by kernel_rfl) (by kernel_rfl) rfl rfl rfl ?_
      refine DL.skip (i := 7) (by kernel_rfl) (by kernel_rfl) rfl rfl rfl ?_
      refine DL.skip (i := 8) (by kernel_rfl) (by kernel_rfl) rfl rfl rfl ?_
      refine DL.skip (i := 9) (by kernel_rfl) (by kernel_rfl) rfl rfl rfl ?_
      refine DL.skip (i := 10) (by kernel_rfl) (by kernel_rfl) rfl rfl rfl ?_
      refine DL.skip (i := 11) (by kernel_rfl) (by kernel_rfl) rfl rfl rfl ?_
      refine DL.skip (i := 12) (by kernel_rfl) (by kernel_rfl) rfl rfl rfl ?_
      refine DL.skip (i := 13) (by kernel_rfl) (by kernel_rfl) rfl rfl rfl ?_
      refine DL.skip (i := 14) (by kernel_rfl) (by kernel_rfl) rfl rfl rfl ?_
      refine DL.skip (i := 15) (by kernel_rfl) (by kernel_rfl) rfl rfl rfl ?_
      refine DL.skip (i := 16) (by kernel_rfl) (by kernel_rfl) rfl rfl rfl ?_
      refine DL.skip (i := 17) (by kernel_rfl) (by kernel_rfl) rfl rfl rfl ?_
      refine DL.pure (i := 18) (by kernel_rfl) (by kernel_rfl) rfl rfl rfl (OpP.pickT rfl rfl) ?_
      refine DL.done (by kernel_rfl) ?_
      refine J.condT rfl ?_
      refine J.seq ?_
      refine J.region ?_
      refine JL.pure rfl rfl (OpP.assign rfl) ?_
      refine JL.nil ?_
      refine J.ret1 rfl rfl ?_
    rotate_left 1
    focus
      refine DL.pure (i := 3) (by kernel_rfl) (by kernel_rfl) rfl rfl rfl (OpP.move rfl) ?_
      refine DL.pure (i := 4) (by kernel_rfl) (by kernel_rfl) rfl rfl rfl (OpP.move rfl) ?_
      refine DL.pure (i := 5) (by kernel_rfl) (by kernel_rfl) rfl rfl rfl (OpP.indexAddrA rfl rfl (by omega) (by omega)) ?_
      refine DL.read (i := 6) (by kernel_rfl) (by kernel_rfl) rfl rfl rfl (fun _ h => h) (OpR.load1 rfl (Cell.row .head rfl)) ?_
      refine DL.dec (i := 7) (by kernel_rfl) (by kernel_rfl) rfl rfl rfl (OpP.gtr rfl rfl) (fun h23 => ?_) (fun h23 => ?_)
      focus
        refine DL.pure (i := 8) (by kernel_rfl) (by kernel_rfl) rfl rfl rfl (OpP.move rfl) ?_
        refine DL.pure (i := 9) (by kernel_rfl) (by kernel_rfl) rfl rfl rfl (OpP.move rfl) ?_
        refine DL.pure (i := 10) (by kernel_rfl) (by kernel_rfl) rfl rfl rfl (OpP.indexAddrA rfl rfl (by omega) (by omega)) ?_
        refine DL.read (i := 11) (by kernel_rfl) (by kernel_rfl) rfl rfl rfl (fun _ h => h) (OpR.load1 rfl (Cell.row .head rfl)) ?_
        refine DL.pure (i := 12) (by kernel_rfl) (by kernel_rfl) rfl rfl rfl (OpP.move rfl) ?_
        refine DL.pure (i := 13) (by kernel_rfl) (by kernel_rfl) rfl rfl rfl (OpP.indexAddrA rfl rfl (by omega) (by omega)) ?_
        refine DL.read (i := 14) (by kernel_rfl) (by kernel_rfl) rfl rfl rfl (fun _ h => h) (OpR.load1 rfl (Cell.row .head rfl)) ?_
        refine DL.pure (i := 15) (by kernel_rfl) (by kernel_rfl) rfl rfl rfl (OpP.addI rfl rfl (by omega) (by omega)) ?_
        refine DL.dec (i := 16) (by kernel_rfl) (by kernel_rfl) rfl rfl rfl (OpP.gtr rfl rfl) (fun h32 => ?_) (fun h32 => ?_)
        focus
          refine DL.pure (i := 17) (by kernel_rfl) (by kernel_rfl) rfl rfl rfl (OpP.pickT rfl rfl) ?_
          refine DL.pure (i := 18) (by kernel_rfl) (by kernel_rfl) rfl rfl rfl (OpP.pickF rfl rfl) ?_
          refine DL.done (by kernel_rfl) ?_
          refine J.condT rfl ?_
          refine J.seq ?_
          refine J.region ?_
          refine JL.pure rfl rfl (OpP.assign rfl) ?_
          refine JL.nil ?_
          refine J.ret1 rfl rfl ?_
        rotate_left 1
        focus
          refine DL.pure (i := 17) (by kernel_rfl) (by kernel_rfl) rfl rfl rfl (OpP.pickT rfl rfl) ?_
          refine DL.pure (i := 18) (by kernel_rfl) (by kernel_rfl) rfl rfl rfl (OpP.pickF rfl rfl) ?_
          refine DL.done (by kernel_rfl) ?_
          refine J.condF rfl ?_
          refine J.skip ?_
          refine J.seq ?_
          refine J.seq ?_
          refine J.region ?_
          refine JL.pure rfl rfl (OpP.move rfl) ?_
          refine JL.pure rfl rfl (OpP.indexAddrA rfl rfl (by omega) (by omega)) ?_
          refine JL.read rfl rfl (OpR.load1 rfl (Cell.row .head rfl)) ?_
          refine JL.decT rfl rfl (OpP.gtr rfl rfl) (by omega) ?_
          refine JL.nil ?_
          refine J.condT rfl ?_
          refine J.seq ?_
          refine J.region ?_
          refine JL.pure rfl rfl (OpP.move rfl) ?_
          refine JL.pure rfl rfl (OpP.assign rfl) ?_
          refine JL.nil ?_
          refine J.ret1 rfl rfl ?_
        rotate_left 1
      rotate_left 2
      focus
        refine DL.pure (i := 8) (by kernel_rfl) (by kernel_rfl) rfl rfl rfl (OpP.move rfl) ?_
        refine DL.skip (i := 9) (by kernel_rfl) (by kernel_rfl) rfl rfl rfl ?_
        refine DL.skip (i := 10) (by kernel_rfl) (by kernel_rfl) rfl rfl rfl ?_
        refine DL.skip (i := 11) (by kernel_rfl) (by kernel_rfl) rfl rfl rfl ?_
        refine DL.skip (i := 12) (by kernel_rfl) (by kernel_rfl) rfl rfl rfl ?_
        refine DL.skip (i := 13) (by kernel_rfl) (by kernel_rfl) rfl rfl rfl ?_
        refine DL.skip (i := 14) (by kernel_rfl) (by kernel_rfl) rfl rfl rfl ?_
        refine DL.skip (i := 15) (by kernel_rfl) (by kernel_rfl) rfl rfl rfl ?_
        refine DL.skip (i := 16) (by kernel_rfl) (by kernel_rfl) rfl rfl rfl ?_
        refine DL.pure (i := 17) (by kernel_rfl) (by kernel_rfl) rfl rfl rfl (OpP.pickF rfl rfl) ?_
        refine DL.pure (i := 18) (by kernel_rfl) (by kernel_rfl) rfl rfl rfl (OpP.pickF rfl rfl) ?_
        refine DL.done (by kernel_rfl) ?_
        refine J.condF rfl ?_
        refine J.skip ?_
        refine J.seq ?_
        refine J.seq ?_
        refine J.region ?_
        refine JL.pure rfl rfl (OpP.move rfl) ?_
        refine JL.pure rfl rfl (OpP.indexAddrA rfl rfl (by omega) (by omega)) ?_
        refine JL.read rfl rfl (OpR.load1 rfl (Cell.row .head rfl)) ?_
        refine JL.decF rfl rfl (OpP.gtr rfl rfl) (by omega) ?_
        refine JL.nil ?_
        refine J.condF rfl ?_
        refine J.skip ?_
        refine J.seq ?_
        refine J.seq ?_
        refine J.region ?_
        refine JL.pure rfl rfl (OpP.move rfl) ?_
        refine JL.pure rfl rfl (OpP.indexAddrA rfl rfl (by omega) (by omega)) ?_
        refine JL.read rfl rfl (OpR.load1 rfl (Cell.row .head rfl)) ?_
        refine JL.dec rfl rfl (OpP.gtr rfl rfl) (fun h43 => ?_) (fun h43 => ?_)
        focus
          refine JL.nil ?_
          refine J.condT rfl ?_
          refine J.seq ?_
          refine J.region ?_
          refine JL.pure rfl rfl (OpP.move rfl) ?_
          refine JL.pure rfl rfl (OpP.assign rfl) ?_
          refine JL.nil ?_
          refine J.ret1 rfl rfl ?_
        rotate_left 1
        focus
          refine JL.nil ?_
          refine J.condF rfl ?_
          refine J.skip ?_
          refine J.seq ?_
          refine J.seq ?_
          refine J.region ?_
          refine JL.pure rfl rfl (OpP.move rfl) ?_
          refine JL.pure rfl rfl (OpP.indexAddrA rfl rfl (by omega) (by omega)) ?_
          refine JL.read rfl rfl (OpR.load1 rfl (Cell.row .head rfl)) ?_
          refine JL.dec rfl rfl (OpP.gtr rfl rfl) (fun h48 => ?_) (fun h48 => ?_)
          focus
            refine JL.nil ?_
            refine J.condT rfl ?_
            refine J.seq ?_
            refine J.region ?_
            refine JL.pure rfl rfl (OpP.move rfl) ?_
            refine JL.pure rfl rfl (OpP.assign rfl) ?_
            refine JL.nil ?_
            refine J.ret1 rfl rfl ?_
          rotate_left 1
          focus
            refine JL.nil ?_
            refine J.condF rfl ?_
            refine J.skip ?_
            refine J.seq ?_
            refine J.region ?_
            refine JL.pure rfl rfl (OpP.assign rfl) ?_
            refine JL.nil ?_
            refine J.ret1 rfl rfl ?_
          rotate_left 1
        rotate_left 2
      rotate_left 3
    rotate_left 5
  rotate_left 6
  all_goals refine ⟨_, ⟨congrArg (Value.int .i64) ?_, rfl⟩, fun _ h => h.tail⟩
  all_goals by_cases q1 : 0 < n1 <;> by_cases q2 : 0 < n2 <;> by_cases q3 : 0 < n3 <;> by_cases q4 : 0 < n4 <;> by_cases q5 : 0 < n5 <;> first | (exfalso; omega) | (simp [overB, q1, q2, q3, q4, q5]; done)
theorem over2_ok {w0 : World} {F : List HProp} {l : List Int} (hl : l.length ≤ 1000) : FnO Try.prog w0 42 [.agg (icells (cnts l)).toArray, .int .i64 1, .int .i64 2, .int .i64 3, .int .i64 4] F
    (fun v l' => v = .int .i64 (overB (decide (1 ∈ l)) (decide (2 ∈ l)) (decide (3 ∈ l)) (decide (4 ∈ l)) (decide (5 ∈ l)) 1 2 3 4) ∧ l' = F) := by
  refine FnO.weak ?_
  refine FnO.intro (n := 50) Try.func42 rfl rfl rfl ?_
  have c : ∀ x, (l.count x ≤ 1000) ∧ (x ∈ l ↔ 0 < l.count x) := fun x => ⟨Nat.le_trans List.count_le_length hl, List.count_pos_iff.symm⟩
  have c1 := c 1
  have c2 := c 2
  have c3 := c 3
  have c4 := c 4
  have c5 := c 5
  clear c
  rw [show decide (2 ∈ l) = decide (0 < l.count 2) by simp only [c2.2], show decide (1 ∈ l) = decide (0 < l.count 1) by simp only [c1.2], show decide (3 ∈ l) = decide (0 < l.count 3) by simp only [c3.2], show decide (4 ∈ l) = decide (0 < l.count 4) by simp only [c4.2], show decide (5 ∈ l) = decide (0 < l.count 5) by simp only [c5.2]]
  simp only [cnts]
  generalize l.count 0 = n0
  generalize l.count 1 = n1 at *
  generalize l.count 2 = n2 at *
  generalize l.count 3 = n3 at *
  generalize l.count 4 = n4 at *
  generalize l.count 5 = n5 at *
  refine J.seq ?_
  refine J.region ?_
  refine JL.mem rfl rfl (OpM.box rfl rfl) ?_; rintro _ _ ⟨b5, rfl, rfl⟩
  refine JL.pure rfl rfl (OpP.assign rfl) ?_
  refine JL.nil ?_
  refine J.seq ?_
  refine J.seq ?_
  refine J.region ?_
  refine JL.pure rfl rfl (OpP.move rfl) ?_
  refine JL.pure rfl rfl (OpP.indexAddrA rfl rfl (by omega) (by omega)) ?_
  refine JL.read rfl rfl (OpR.load1 rfl (Cell.row .head rfl)) ?_
  refine JL.dec rfl rfl (OpP.gtr rfl rfl) (fun h14 => ?_) (fun h14 => ?_)
  focus
    refine JL.nil ?_
    refine J.condT rfl ?_
    refine J.seq ?_
    refine J.region ?_
    refine JL.pure rfl rfl (OpP.move rfl) ?_
    refine JL.pure rfl rfl (OpP.assign rfl) ?_
    refine JL.nil ?_
    refine J.ret1 rfl rfl ?_
  rotate_left 1
  focus
    refine JL.nil ?_
    refine J.condF rfl ?_
    refine J.skip ?_
    refine J.seq ?_
    refine J.seq ?_
    refine J.regionD [1, 6, 11, 14] (by kernel_rfl) ?_
    refine DL.pure (i := 0) (by kernel_rfl) (by kernel_rfl) rfl rfl rfl (OpP.indexAddrA rfl rfl (by omega) (by omega)) ?_
    refine DL.read (i := 1) (by kernel_rfl) (by kernel_rfl) rfl rfl rfl (fun _ h => h) (OpR.load1 rfl (Cell.row .head rfl)) ?_
    refine DL.dec (i := 2) (by kernel_rfl) (by kernel_rfl) rfl rfl rfl (OpP.gtr rfl rfl) (fun h18 => ?_) (fun h18 => ?_)
    focus
      refine DL.pure (i := 3) (by kernel_rfl) (by kernel_rfl) rfl rfl rfl (OpP.move rfl) ?_
      refine DL.skip (i := 4) (by kernel_rfl) (by kernel_rfl) rfl rfl rfl ?_
      refine DL.skip (i := 5) (by kernel_rfl) (by kernel_rfl) rfl rfl rfl ?_
      refine DL.skip (i := 6) (by kernel_rfl) (by kernel_rfl) rfl rfl rfl ?_
      refine DL.skip (i := 7) (by kernel_rfl) (by kernel_rfl) rfl rfl rfl ?_
      refine DL.skip (i := 8) (by kernel_rfl) (by kernel_rfl) rfl rfl rfl ?_
      refine DL.skip (i := 9) (by kernel_rfl) (by kernel_rfl) rfl rfl rfl ?_
      refine DL.skip (i := 10) (by kernel_rfl) (by kernel_rfl) rfl rfl rfl ?_
      refine DL.skip (i := 11) (by kernel_rfl) (by kernel_rfl) rfl rfl rfl ?_
      refine DL.skip (i := 12) (by kernel_rfl) (by kernel_rfl) rfl rfl rfl ?_
      refine DL.skip (i := 13) (by kernel_rfl) (by kernel_rfl) rfl rfl rfl ?_
      refine DL.skip (i := 14) (by kernel_rfl) (by kernel_rfl) rfl rfl rfl ?_
      refine DL.skip (i := 15) (by kernel_rfl) (by kernel_rfl) rfl rfl rfl ?_
      refine DL.skip (i := 16) (by kernel_rfl) (by kernel_rfl) rfl rfl rfl ?_
      refine DL.skip (i := 17) (by kernel_rfl) (by kernel_rfl) rfl rfl rfl ?_
      refine DL.pure (i := 18) (by kernel_rfl) (by kernel_rfl) rfl rfl rfl (OpP.pickT rfl rfl) ?_
      refine DL.done (by kernel_rfl) ?_
      refine J.condT rfl ?_
      refine J.seq ?_
      refine J.region ?_
      refine JL.pure rfl rfl (OpP.assign rfl) ?_
      refine JL.nil ?_
      refine J.ret1 rfl rfl ?_
    rotate_left 1
    focus
      refine DL.pure (i := 3) (by kernel_rfl) (by kernel_rfl) rfl rfl rfl (OpP.move rfl) ?_
      refine DL.pure (i := 4) (by kernel_rfl) (by kernel_rfl) rfl rfl rfl (OpP.move rfl) ?_
      refine DL.pure (i := 5) (by kernel_rfl) (by kernel_rfl) rfl rfl rfl (OpP.indexAddrA rfl rfl (by omega) (by omega)) ?_
      refine DL.read (i := 6) (by kernel_rfl) (by kernel_rfl) rfl rfl rfl (fun _ h => h) (OpR.load1 rfl (Cell.row .head rfl)) ?_
      refine DL.dec (i := 7) (by kernel_rfl) (by kernel_rfl) rfl rfl rfl (OpP.gtr rfl rfl) (fun h23 => ?_) (fun h23 => ?_)
      focus
        refine DL.pure (i := 8) (by kernel_rfl) (by kernel_rfl) rfl rfl rfl (OpP.move rfl) ?_
        refine DL.pure (i := 9) (by kernel_rfl) (by kernel_rfl) rfl rfl rfl (OpP.move rfl) ?_
        refine DL.pure (i := 10) (by kernel_rfl) (by kernel_rfl) rfl rfl rfl (OpP.indexAddrA rfl rfl (by omega) (by omega)) ?_
        refine DL.read (i := 11) (by kernel_rfl) (by kernel_rfl) rfl rfl rfl (fun _ h => h) (OpR.load1 rfl (Cell.row .head rfl)) ?_
        refine DL.pure (i := 12) (by kernel_rfl) (by kernel_rfl) rfl rfl rfl (OpP.move rfl) ?_
        refine DL.pure (i := 13) (by kernel_rfl) (by kernel_rfl) rfl rfl rfl (OpP.indexAddrA rfl rfl (by omega) (by omega)) ?_
        refine DL.read (i := 14) (by kernel_rfl) (by kernel_rfl) rfl rfl rfl (fun _ h => h) (OpR.load1 rfl (Cell.row .head rfl)) ?_
        refine DL.pure (i := 15) (by kernel_rfl) (by kernel_rfl) rfl rfl rfl (OpP.addI rfl rfl (by omega) (by omega)) ?_
        refine DL.dec (i := 16) (by kernel_rfl) (by kernel_rfl) rfl rfl rfl (OpP.gtr rfl rfl) (fun h32 => ?_) (fun h32 => ?_)
        focus
          refine DL.pure (i := 17) (by kernel_rfl) (by kernel_rfl) rfl rfl rfl (OpP.pickT rfl rfl) ?_
          refine DL.pure (i := 18) (by kernel_rfl) (by kernel_rfl) rfl rfl rfl (OpP.pickF rfl rfl) ?_
          refine DL.done (by kernel_rfl) ?_
          refine J.condT rfl ?_
          refine J.seq ?_
          refine J.region ?_
          refine JL.pure rfl rfl (OpP.assign rfl) ?_
          refine JL.nil ?_
          refine J.ret1 rfl rfl ?_
        rotate_left 1
        focus
          refine DL.pure (i := 17) (by kernel_rfl) (by kernel_rfl) rfl rfl rfl (OpP.pickT rfl rfl) ?_
          refine DL.pure (i := 18) (by kernel_rfl) (by kernel_rfl) rfl rfl rfl (OpP.pickF rfl rfl) ?_
          refine DL.done (by kernel_rfl) ?_
          refine J.condF rfl ?_
          refine J.skip ?_
          refine J.seq ?_
          refine J.seq ?_
          refine J.region ?_
          refine JL.pure rfl rfl (OpP.move rfl) ?_
          refine JL.pure rfl rfl (OpP.indexAddrA rfl rfl (by omega) (by omega)) ?_
          refine JL.read rfl rfl (OpR.load1 rfl (Cell.row .head rfl)) ?_
          refine JL.decT rfl rfl (OpP.gtr rfl rfl) (by omega) ?_
          refine JL.nil ?_
          refine J.condT rfl ?_
          refine J.seq ?_
          refine J.region ?_
          refine JL.pure rfl rfl (OpP.move rfl) ?_
          refine JL.pure rfl rfl (OpP.assign rfl) ?_
          refine JL.nil ?_
          refine J.ret1 rfl rfl ?_
        rotate_left 1
      rotate_left 2
      focus
        refine DL.pure (i := 8) (by kernel_rfl) (by kernel_rfl) rfl rfl rfl (OpP.move rfl) ?_
        refine DL.skip (i := 9) (by kernel_rfl) (by kernel_rfl) rfl rfl rfl ?_
        refine DL.skip (i := 10) (by kernel_rfl) (by kernel_rfl) rfl rfl rfl ?_
        refine DL.skip (i := 11) (by kernel_rfl) (by kernel_rfl) rfl rfl rfl ?_
        refine DL.skip (i := 12) (by kernel_rfl) (by kernel_rfl) rfl rfl rfl ?_
        refine DL.skip (i := 13) (by kernel_rfl) (by kernel_rfl) rfl rfl rfl ?_
        refine DL.skip (i := 14) (by kernel_rfl) (by kernel_rfl) rfl rfl rfl ?_
        refine DL.skip (i := 15) (by kernel_rfl) (by kernel_rfl) rfl rfl rfl ?_
        refine DL.skip (i := 16) (by kernel_rfl) (by kernel_rfl) rfl rfl rfl ?_
        refine DL.pure (i := 17) (by kernel_rfl) (by kernel_rfl) rfl rfl rfl (OpP.pickF rfl rfl) ?_
        refine DL.pure (i := 18) (by kernel_rfl) (by kernel_rfl) rfl rfl rfl (OpP.pickF rfl rfl) ?_
        refine DL.done (by kernel_rfl) ?_
        refine J.condF rfl ?_
        refine J.skip ?_
        refine J.seq ?_
        refine J.seq ?_
        refine J.region ?_
        refine JL.pure rfl rfl (OpP.move rfl) ?_
        refine JL.pure rfl rfl (OpP.indexAddrA rfl rfl (by omega) (by omega)) ?_
        refine JL.read rfl rfl (OpR.load1 rfl (Cell.row .head rfl)) ?_
        refine JL.decF rfl rfl (OpP.gtr rfl rfl) (by omega) ?_
        refine JL.nil ?_
        refine J.condF rfl ?_
        refine J.skip ?_
        refine J.seq ?_
        refine J.seq ?_
        refine J.region ?_
        refine JL.pure rfl rfl (OpP.move rfl) ?_
        refine JL.pure rfl rfl (OpP.indexAddrA rfl rfl (by omega) (by omega)) ?_
        refine JL.read rfl rfl (OpR.load1 rfl (Cell.row .head rfl)) ?_
        refine JL.dec rfl rfl (OpP.gtr rfl rfl) (fun h43 => ?_) (fun h43 => ?_)
        focus
          refine JL.nil ?_
          refine J.condT rfl ?_
          refine J.seq ?_
          refine J.region ?_
          refine JL.pure rfl rfl (OpP.move rfl) ?_
          refine JL.pure rfl rfl (OpP.assign rfl) ?_
          refine JL.nil ?_
          refine J.ret1 rfl rfl ?_
        rotate_left 1
        focus
          refine JL.nil ?_
          refine J.condF rfl ?_
          refine J.skip ?_
          refine J.seq ?_
          refine J.seq ?_
          refine J.region ?_
          refine JL.pure rfl rfl (OpP.move rfl) ?_
          refine JL.pure rfl rfl (OpP.indexAddrA rfl rfl (by omega) (by omega)) ?_
          refine JL.read rfl rfl (OpR.load1 rfl (Cell.row .head rfl)) ?_
          refine JL.dec rfl rfl (OpP.gtr rfl rfl) (fun h48 => ?_) (fun h48 => ?_)
          focus
            refine JL.nil ?_
            refine J.condT rfl ?_
            refine J.seq ?_
            refine J.region ?_
            refine JL.pure rfl rfl (OpP.move rfl) ?_
            refine JL.pure rfl rfl (OpP.assign rfl) ?_
            refine JL.nil ?_
            refine J.ret1 rfl rfl ?_
          rotate_left 1
          focus
            refine JL.nil ?_
            refine J.condF rfl ?_
            refine J.skip ?_
            refine J.seq ?_
            refine J.region ?_
            refine JL.pure rfl rfl (OpP.assign rfl) ?_
            refine JL.nil ?_
            refine J.ret1 rfl rfl ?_
          rotate_left 1
        rotate_left 2
      rotate_left 3
    rotate_left 5
  rotate_left 6
  all_goals refine ⟨_, ⟨congrArg (Value.int .i64) ?_, rfl⟩, fun _ h => h.tail⟩
  all_goals by_cases q1 : 0 < n1 <;> by_cases q2 : 0 < n2 <;> by_cases q3 : 0 < n3 <;> by_cases q4 : 0 < n4 <;> by_cases q5 : 0 < n5 <;> first | (exfalso; omega) | (simp [overB, q1, q2, q3, q4, q5]; done)

def refI (u : ByteArray) (l : List Int) : Int :=
  if u = uDO then overB (decide (2 ∈ l)) (decide (1 ∈ l)) (decide (4 ∈ l)) (decide (3 ∈ l)) (decide (5 ∈ l)) 2 1 4 3
  else if u = uPO then overB (decide (1 ∈ l)) (decide (2 ∈ l)) (decide (3 ∈ l)) (decide (4 ∈ l)) (decide (5 ∈ l)) 1 2 3 4
  else if u = uFI then firstI l else if u = uOO then (if 1 < (nz l).length then 5 else firstI l)
  else if u = uDP then (if 0 < l.count 1 then 1 else 2) else if 0 < l.count 2 then 2 else 1
theorem r1 {u : ByteArray} {l : List Int} (h : u = uDO) : refI u l = overB (decide (2 ∈ l)) (decide (1 ∈ l)) (decide (4 ∈ l)) (decide (3 ∈ l)) (decide (5 ∈ l)) 2 1 4 3 := by subst h; exact if_pos rfl
theorem r2 {u : ByteArray} {l : List Int} (h : u = uPO) : refI u l = overB (decide (1 ∈ l)) (decide (2 ∈ l)) (decide (3 ∈ l)) (decide (4 ∈ l)) (decide (5 ∈ l)) 1 2 3 4 := by subst h; rw [refI, if_neg (by decide), if_pos rfl]
theorem r3 {u : ByteArray} {l : List Int} (h : u = uFI) : refI u l = firstI l := by subst h; rw [refI, if_neg (by decide), if_neg (by decide), if_pos rfl]
theorem r4 {u : ByteArray} {l : List Int} (h : u = uOO) : refI u l = (if 1 < (nz l).length then 5 else firstI l) := by subst h; rw [refI, if_neg (by decide), if_neg (by decide), if_neg (by decide), if_pos rfl]
theorem r5 {u : ByteArray} {l : List Int} (h : u = uDP) : refI u l = (if 0 < l.count 1 then 1 else 2) := by subst h; rw [refI, if_neg (by decide), if_neg (by decide), if_neg (by decide), if_neg (by decide), if_pos rfl]
theorem r6 {u : ByteArray} {l : List Int} (h1 : ¬ u = uDO) (h2 : ¬ u = uPO) (h3 : ¬ u = uFI) (h4 : ¬ u = uOO) (h5 : ¬ u = uDP) : refI u l = if 0 < l.count 2 then 2 else 1 := by rw [refI, if_neg h1, if_neg h2, if_neg h3, if_neg h4, if_neg h5]
theorem firstI_snoc {l : List Int} {x : Int} : firstI (l ++ [x]) = if x ≠ 0 ∧ (nz l).length = 0 then x else firstI l := by
  unfold firstI nz
  rw [List.filter_append]
  by_cases hx : x = 0
  · simp [hx]
  · cases h : l.filter (fun x => decide (x ≠ 0)) <;> simp [hx]
theorem nz_snoc {l : List Int} {x : Int} : (nz (l ++ [x])).length = (nz l).length + if x ≠ 0 then 1 else 0 := by
  unfold nz
  rw [List.filter_append]
  by_cases hx : x = 0 <;> simp [hx]
theorem Ref_ok {w0 : World} {F : List HProp} {u : ByteArray} {v : Value} {xs : List Int} (hr : RdO w0 F v xs.length (icells xs)) (hl : xs.length ≤ 1000) (hv : ∀ x ∈ xs, 0 ≤ x ∧ x ≤ 5) :
    FnO Try.prog w0 17 [.string u, v] F (fun r l' => r = .int .i64 (refI u xs) ∧ l' = F) := by
  refine FnO.rd hr fun hr' => ?_
  obtain ⟨a, c, rfl⟩ := hr'.lit
  refine FnO.weak ?_
  refine FnO.intro (n := 61) Try.func17 rfl rfl rfl ?_
  refine J.seq ?_
  refine J.region ?_
  refine JL.pure rfl rfl (OpP.assign rfl) ?_
  refine JL.nil ?_
  refine J.seq ?_
  refine J.region ?_
  refine JL.mem rfl rfl OpM.alloc ?_; rintro _ _ ⟨b5, rfl, rfl⟩
  refine JL.nil ?_
  refine J.seq ?_
  refine J.region ?_
  refine JL.pure rfl rfl (OpP.assign rfl) ?_
  refine JL.pure rfl rfl (OpP.assign rfl) ?_
  refine JL.nil ?_
  refine J.seq ?_
  refine J.seq ?_
  refine J.region ?_
  refine JL.pure rfl rfl (OpP.assign rfl) ?_
  refine JL.nil ?_
  refine J.block ?_
  refine J.loopI (fun i : Nat => xs.length - i) (fun i => i ≤ xs.length) (fun i => [(8, .int .i64 (i : Nat)), (7, .int .i64 (firstI (xs.take i))), (6, .int .i64 ((nz (xs.take i)).length : Nat)), (5, .pointer (some ⟨b5, 0, none⟩)), (0, .string u), (1, .slice a xs.length c)])
    (fun i => row b5 37 (icells (cnts (xs.take i))) :: F) 0 (Nat.zero_le _) (by repeat (first | exact SubEnv.nil | refine SubEnv.cons (by first | rfl | exact congrArg (fun z => some (Value.int .i64 z)) (by omega) | (simp; done)) ?_)) (fun _ h => h) (fun i hi back => ?_)
  by_cases hlt : i < xs.length
  · obtain ⟨x, hx⟩ : ∃ x, xs[i]? = some x := ⟨_, List.getElem?_eq_getElem hlt⟩
    have hx' := icells_get hx
    have hx05 := hv x (List.mem_of_getElem? hx)
    have h0 := hx05.1
    have h5 := hx05.2
    have hsl : (icells (cnts (xs.take i))).length = 6 := rfl
    have hg := cnts_get (l := xs.take i) h0 h5
    have hs := cnts_set (l := xs.take i) h0 h5
    have hcn : (xs.take i).count x ≤ 1000 := Nat.le_trans List.count_le_length (by rw [List.length_take]; omega)
    have hnn : (nz (xs.take i)).length ≤ 1000 := Nat.le_trans (nz_length _) (by rw [List.length_take]; omega)
    have ht : xs.take (i + 1) = xs.take i ++ [x] := by rw [List.take_add_one, hx]; rfl
    have hf := firstI_snoc (l := xs.take i) (x := x)
    have hn := nz_snoc (l := xs.take i) (x := x)
    rw [← ht] at hf hn hs
    refine J.seq ?_
    refine J.seq ?_
    refine J.region ?_
    refine JL.pure rfl rfl (OpP.move rfl) ?_
    refine JL.pure rfl rfl (OpP.move rfl) ?_
    refine JL.pure rfl rfl (OpP.len rfl rfl) ?_
    refine JL.decT rfl rfl (OpP.lss rfl rfl) (by omega) ?_
    refine JL.nil ?_
    refine J.condT rfl ?_
    refine J.skip ?_
    refine J.seq ?_
    refine J.block ?_
    refine J.seq ?_
    refine J.region ?_
    refine JL.pure rfl rfl (OpP.move rfl) ?_
    refine JL.pure rfl rfl (OpP.move rfl) ?_
    obtain ⟨ga, pa, qa, ea, ka, ca⟩ := hr'.pos (by omega); cases ea
    refine JL.pure rfl rfl (OpP.indexAddr rfl rfl (by omega) (by omega)) ?_
    refine JL.read rfl rfl (OpR.load1 rfl (by apply Cells.cell ca (fun _ h => Own.pick (pre := [_]) [] rfl h); (case' hv => assumption); (case' ho => omega); done)) ?_
    refine JL.pure rfl rfl (OpP.indexAddrA rfl rfl (by omega) (by omega)) ?_
    refine JL.read rfl rfl (OpR.load1 rfl (by apply Cell.rowAt .head; (case' hv => assumption); (case' ho => omega); done)) ?_
    refine JL.pure rfl rfl (OpP.addI rfl rfl (by omega) (by omega)) ?_
    refine JL.pure rfl rfl (OpP.indexAddrA rfl rfl (by omega) (by omega)) ?_
    refine JL.mem0 rfl (by apply OpM.store1 rfl rfl rfl; (case' hu => exact .head); (case' hs => exact spl_at rfl (by first | assumption | omega)); done) ?_; rintro _ _ ⟨rfl, rfl⟩
    refine JL.nil ?_
    refine J.seq ?_
    refine J.region ?_
    refine JL.pure rfl rfl (OpP.move rfl) ?_
    refine JL.pure rfl rfl (OpP.move rfl) ?_
    refine JL.pure rfl rfl (OpP.indexAddr rfl rfl (by omega) (by omega)) ?_
    refine JL.read rfl rfl (OpR.load1 rfl (by apply Cells.cell ca (fun _ h => Own.pick (pre := [_]) [] rfl h); (case' hv => assumption); (case' ho => omega); done)) ?_
    refine JL.dec rfl rfl (OpP.neq rfl rfl) (fun h27 => ?_) (fun h27 => ?_)
    focus
      refine JL.nil ?_
      refine J.condT rfl ?_
      refine J.seq ?_
      refine J.seq ?_
      refine J.region ?_
      refine JL.pure rfl rfl (OpP.move rfl) ?_
      refine JL.dec rfl rfl (OpP.eql rfl rfl) (fun h29 => ?_) (fun h29 => ?_)
      focus
        refine JL.nil ?_
        refine J.condT rfl ?_
        refine J.region ?_
        refine JL.pure rfl rfl (OpP.move rfl) ?_
        refine JL.pure rfl rfl (OpP.move rfl) ?_
        refine JL.pure rfl rfl (OpP.indexAddr rfl rfl (by omega) (by omega)) ?_
        refine JL.read rfl rfl (OpR.load1 rfl (by apply Cells.cell ca (fun _ h => Own.pick (pre := [_]) [] rfl h); (case' hv => assumption); (case' ho => omega); done)) ?_
        refine JL.pure rfl rfl (OpP.assign rfl) ?_
        refine JL.nil ?_
        refine J.region ?_
        refine JL.pure rfl rfl (OpP.move rfl) ?_
        refine JL.pure rfl rfl (OpP.addI rfl rfl (by omega) (by omega)) ?_
        refine JL.pure rfl rfl (OpP.assign rfl) ?_
        refine JL.nil ?_
        refine J.inBlock ?_
        refine J.region ?_
        refine JL.pure rfl rfl (OpP.move rfl) ?_
        refine JL.pure rfl rfl (OpP.addI rfl rfl (by omega) (by omega)) ?_
        refine JL.pure rfl rfl (OpP.assign rfl) ?_
        refine JL.nil ?_
      rotate_left 1
      focus
        refine JL.nil ?_
        refine J.condF rfl ?_
        refine J.skip ?_
        refine J.region ?_
        refine JL.pure rfl rfl (OpP.move rfl) ?_
        refine JL.pure rfl rfl (OpP.addI rfl rfl (by omega) (by omega)) ?_
        refine JL.pure rfl rfl (OpP.assign rfl) ?_
        refine JL.nil ?_
        refine J.inBlock ?_
        refine J.region ?_
        refine JL.pure rfl rfl (OpP.move rfl) ?_
        refine JL.pure rfl rfl (OpP.addI rfl rfl (by omega) (by omega)) ?_
        refine JL.pure rfl rfl (OpP.assign rfl) ?_
        refine JL.nil ?_
      rotate_left 1
    rotate_left 2
    focus
      refine JL.nil ?_
      refine J.condF rfl ?_
      refine J.skip ?_
      refine J.inBlock ?_
      refine J.region ?_
      refine JL.pure rfl rfl (OpP.move rfl) ?_
      refine JL.pure rfl rfl (OpP.addI rfl rfl (by omega) (by omega)) ?_
      refine JL.pure rfl rfl (OpP.assign rfl) ?_
      refine JL.nil ?_
    rotate_left 1
    · have hf' : firstI (xs.take (i + 1)) = x := by rw [hf, if_pos ⟨h27, by omega⟩]
      have hn' : (nz (xs.take (i + 1))).length = (nz (xs.take i)).length + 1 := by rw [hn, if_pos h27]
      refine back (i + 1) (by omega) (by omega) (by rw [hf', hn']; exact (by repeat (first | exact SubEnv.nil | refine SubEnv.cons (by first | rfl | exact congrArg (fun z => some (Value.int .i64 z)) (by omega) | (simp; done)) ?_))) (fun w h => by dsimp only; rw [← hs]; exact h)
    · have hf' : firstI (xs.take (i + 1)) = firstI (xs.take i) := by rw [hf, if_neg (by omega)]
      have hn' : (nz (xs.take (i + 1))).length = (nz (xs.take i)).length + 1 := by rw [hn, if_pos h27]
      refine back (i + 1) (by omega) (by omega) (by rw [hf', hn']; exact (by repeat (first | exact SubEnv.nil | refine SubEnv.cons (by first | rfl | exact congrArg (fun z => some (Value.int .i64 z)) (by omega) | (simp; done)) ?_))) (fun w h => by dsimp only; rw [← hs]; exact h)
    · have hf' : firstI (xs.take (i + 1)) = firstI (xs.take i) := by rw [hf, if_neg (by omega)]
      have hn' : (nz (xs.take (i + 1))).length = (nz (xs.take i)).length := by rw [hn, if_neg h27]; rfl
      refine back (i + 1) (by omega) (by omega) (by rw [hf', hn']; exact (by repeat (first | exact SubEnv.nil | refine SubEnv.cons (by first | rfl | exact congrArg (fun z => some (Value.int .i64 z)) (by omega) | (simp; done)) ?_))) (fun w h => by dsimp only; rw [← hs]; exact h)
  · have hil : i = xs.length := by omega
    subst hil
    rw [List.take_length]
    have hc1 : xs.count 1 ≤ 1000 := Nat.le_trans List.count_le_length hl
    have hc2 : xs.count 2 ≤ 1000 := Nat.le_trans List.count_le_length hl
    refine J.seq ?_
    refine J.seq ?_
    refine J.region ?_
    refine JL.pure rfl rfl (OpP.move rfl) ?_
    refine JL.pure rfl rfl (OpP.move rfl) ?_
    refine JL.pure rfl rfl (OpP.len rfl rfl) ?_
    refine JL.decF rfl rfl (OpP.lss rfl rfl) (by omega) ?_
    refine JL.nil ?_
    refine J.condF rfl ?_
    refine J.exit rfl ?_
    refine J.seq ?_
    refine J.seq ?_
    refine J.region ?_
    refine JL.pure rfl rfl (OpP.move rfl) ?_
    refine JL.nil ?_
    refine J.block ?_
    refine J.seq ?_
    refine J.region ?_
    refine JL.dec rfl rfl (OpP.eqStr rfl rfl) (fun h38 => ?_) (fun h38 => ?_)
    focus
      refine JL.pure rfl rfl (OpP.assign rfl) ?_
      refine JL.nil ?_
      refine J.condT rfl ?_
      refine J.seq ?_
      refine J.region ?_
      refine JL.read rfl rfl (OpR.loadN rfl (Cells.full .head) rfl) ?_
      refine JL.step rfl rfl (OpW.call (first := []) (captured := []) inferInstance rfl rfl (over1_ok hl)) ?_; rintro r40 _ ⟨rfl, rfl⟩
      refine JL.pure rfl rfl (OpP.assign rfl) ?_
      refine JL.nil ?_
      refine J.ret1 rfl rfl ?_
    rotate_left 1
    focus
      refine JL.pure rfl rfl (OpP.assign rfl) ?_
      refine JL.nil ?_
      refine J.condF rfl ?_
      refine J.seq ?_
      refine J.region ?_
      refine JL.dec rfl rfl (OpP.eqStr rfl rfl) (fun h42 => ?_) (fun h42 => ?_)
      focus
        refine JL.pure rfl rfl (OpP.assign rfl) ?_
        refine JL.nil ?_
        refine J.condT rfl ?_
        refine J.seq ?_
        refine J.region ?_
        refine JL.read rfl rfl (OpR.loadN rfl (Cells.full .head) rfl) ?_
        refine JL.step rfl rfl (OpW.call (first := []) (captured := []) inferInstance rfl rfl (over2_ok hl)) ?_; rintro r44 _ ⟨rfl, rfl⟩
        refine JL.pure rfl rfl (OpP.assign rfl) ?_
        refine JL.nil ?_
        refine J.ret1 rfl rfl ?_
      rotate_left 1
      focus
        refine JL.pure rfl rfl (OpP.assign rfl) ?_
        refine JL.nil ?_
        refine J.condF rfl ?_
        refine J.seq ?_
        refine J.region ?_
        refine JL.dec rfl rfl (OpP.eqStr rfl rfl) (fun h46 => ?_) (fun h46 => ?_)
        focus
          refine JL.pure rfl rfl (OpP.assign rfl) ?_
          refine JL.nil ?_
          refine J.condT rfl ?_
          refine J.seq ?_
          refine J.region ?_
          refine JL.pure rfl rfl (OpP.move rfl) ?_
          refine JL.pure rfl rfl (OpP.assign rfl) ?_
          refine JL.nil ?_
          refine J.ret1 rfl rfl ?_
        rotate_left 1
        focus
          refine JL.pure rfl rfl (OpP.assign rfl) ?_
          refine JL.nil ?_
          refine J.condF rfl ?_
          refine J.seq ?_
          refine J.region ?_
          refine JL.dec rfl rfl (OpP.eqStr rfl rfl) (fun h49 => ?_) (fun h49 => ?_)
          focus
            refine JL.pure rfl rfl (OpP.assign rfl) ?_
            refine JL.nil ?_
            refine J.condT rfl ?_
            refine J.seq ?_
            refine J.seq ?_
            refine J.region ?_
            refine JL.pure rfl rfl (OpP.move rfl) ?_
            refine JL.dec rfl rfl (OpP.gtr rfl rfl) (fun h51 => ?_) (fun h51 => ?_)
            focus
              refine JL.nil ?_
              refine J.condT rfl ?_
              refine J.seq ?_
              refine J.region ?_
              refine JL.pure rfl rfl (OpP.assign rfl) ?_
              refine JL.nil ?_
              refine J.ret1 rfl rfl ?_
            rotate_left 1
            focus
              refine JL.nil ?_
              refine J.condF rfl ?_
              refine J.skip ?_
              refine J.seq ?_
              refine J.region ?_
              refine JL.pure rfl rfl (OpP.move rfl) ?_
              refine JL.pure rfl rfl (OpP.assign rfl) ?_
              refine JL.nil ?_
              refine J.ret1 rfl rfl ?_
            rotate_left 1
          rotate_left 2
          focus
            refine JL.pure rfl rfl (OpP.assign rfl) ?_
            refine JL.nil ?_
            refine J.condF rfl ?_
            refine J.seq ?_
            refine J.region ?_
            refine JL.dec rfl rfl (OpP.eqStr rfl rfl) (fun h54 => ?_) (fun h54 => ?_)
            focus
              refine JL.pure rfl rfl (OpP.assign rfl) ?_
              refine JL.nil ?_
              refine J.condT rfl ?_
              refine J.seq ?_
              refine J.seq ?_
              refine J.region ?_
              refine JL.pure rfl rfl (OpP.indexAddrA rfl rfl (by omega) (by omega)) ?_
              refine JL.read rfl rfl (OpR.load1 rfl (Cell.row .head rfl)) ?_
              refine JL.dec rfl rfl (OpP.gtr rfl rfl) (fun h57 => ?_) (fun h57 => ?_)
              focus
                refine JL.nil ?_
                refine J.condT rfl ?_
                refine J.seq ?_
                refine J.region ?_
                refine JL.pure rfl rfl (OpP.assign rfl) ?_
                refine JL.nil ?_
                refine J.ret1 rfl rfl ?_
              rotate_left 1
              focus
                refine JL.nil ?_
                refine J.condF rfl ?_
                refine J.skip ?_
                refine J.seq ?_
                refine J.region ?_
                refine JL.pure rfl rfl (OpP.assign rfl) ?_
                refine JL.nil ?_
                refine J.ret1 rfl rfl ?_
              rotate_left 1
            rotate_left 2
            focus
              refine JL.pure rfl rfl (OpP.assign rfl) ?_
              refine JL.nil ?_
              refine J.condF rfl ?_
              refine J.skip ?_
              refine J.inBlock ?_
              refine J.seq ?_
              refine J.seq ?_
              refine J.region ?_
              refine JL.pure rfl rfl (OpP.indexAddrA rfl rfl (by omega) (by omega)) ?_
              refine JL.read rfl rfl (OpR.load1 rfl (Cell.row .head rfl)) ?_
              refine JL.dec rfl rfl (OpP.gtr rfl rfl) (fun h60 => ?_) (fun h60 => ?_)
              focus
                refine JL.nil ?_
                refine J.condT rfl ?_
                refine J.seq ?_
                refine J.region ?_
                refine JL.pure rfl rfl (OpP.assign rfl) ?_
                refine JL.nil ?_
                refine J.ret1 rfl rfl ?_
              rotate_left 1
              focus
                refine JL.nil ?_
                refine J.condF rfl ?_
                refine J.skip ?_
                refine J.seq ?_
                refine J.region ?_
                refine JL.pure rfl rfl (OpP.assign rfl) ?_
                refine JL.nil ?_
                refine J.ret1 rfl rfl ?_
              rotate_left 1
            rotate_left 2
          rotate_left 4
        rotate_left 6
      rotate_left 7
    rotate_left 8
    all_goals refine ⟨_, ⟨congrArg (Value.int .i64) ?_, rfl⟩, fun _ h => h.tail⟩
    all_goals first
      | rw [r1 (by assumption)]
      | rw [r2 (by assumption)]
      | rw [r3 (by assumption)]
      | rw [r4 (by assumption), if_pos (by omega)]
      | rw [r4 (by assumption), if_neg (by omega)]
      | rw [r5 (by assumption), if_pos (by omega)]
      | rw [r5 (by assumption), if_neg (by omega)]
      | rw [r6 (by assumption) (by assumption) (by assumption) (by assumption) (by assumption), if_pos (by omega)]
      | rw [r6 (by assumption) (by assumption) (by assumption) (by assumption) (by assumption), if_neg (by omega)]
end Go.Proofs.C
