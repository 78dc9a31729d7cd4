/- A text of the proof of a statement about the given program: its part FA3. No person has read it. -/
import Derived.Test.YtoailinfboehlaaDoorFA2
import Derived.Test.YtoailinfboehlaaDoorFJ2
import Derived.Test.YtoailinfboehlaaDoorFA1
-- seat f
namespace Go.Proofs.F
open Go Go.Gp Go.RowKit

/-! The reference's words: 32 truths. -/
theorem upd_bit {G D : Nat → Bool} {i : Nat} {c : Bool} (h : c = G i) : fc 32 (upd (fun j => Value.bool (if j < i then G j else D j)) i (.bool c)) = fc 32 (fun j => Value.bool (if j < i + 1 then G j else D j)) := by
  refine fc_congr fun j _ => ?_
  unfold upd
  by_cases hj : j = i
  · subst hj; rw [if_pos rfl, if_pos (by omega), h]
  · rw [if_neg hj]
    dsimp only
    by_cases h2 : j < i
    · rw [if_pos h2, if_pos (by omega)]
    · rw [if_neg h2, if_neg (by omega)]
theorem keep_bit {G D : Nat → Bool} {i : Nat} (h : G i = D i) : fc 32 (fun j => Value.bool (if j < i then G j else D j)) = fc 32 (fun j => Value.bool (if j < i + 1 then G j else D j)) := by
  refine fc_congr fun j _ => ?_
  by_cases hj : j = i
  · subst hj; rw [if_neg (by omega), if_pos (by omega), h]
  · by_cases h2 : j < i
    · rw [if_pos h2, if_pos (by omega)]
    · rw [if_neg h2, if_neg (by omega)]
theorem bit_full {G D : Nat → Bool} {x : BitVec 32} (h : ∀ j, j < 32 → G j = x.getLsbD j) : fc 32 (fun j => Value.bool (if j < 32 then G j else D j)) = fc 32 (bitV x) :=
  fc_congr fun j hj => by rw [if_pos hj, h j hj]
theorem bit_zero {G D : Nat → Bool} (h : ∀ j, D j = false) : List.replicate 32 (Value.bool false) = fc 32 (fun j => Value.bool (if j < 0 then G j else D j)) :=
  fc_rep fun j _ => by rw [if_neg (by omega), h]

theorem Odd_ok {w0 : World} {F : List HProp} {x y z : BitVec 32} :
    FnO Tryd.prog w0 69 [.agg (fc 32 (bitV x)).toArray, .agg (fc 32 (bitV y)).toArray, .agg (fc 32 (bitV z)).toArray] F (fun v l' => v = .agg (fc 32 (bitV (x ^^^ y ^^^ z))).toArray ∧ l' = F) := by
  refine FnO.weak ?_
  refine FnO.intro (n := 27) Tryd.func69 rfl rfl rfl ?_
  refine J.seq ?_
  refine J.region ?_
  refine JL.mem rfl rfl (OpM.box rfl rfl) ?_; rintro _ _ ⟨b3, rfl, rfl⟩
  refine JL.mem rfl rfl (OpM.box rfl rfl) ?_; rintro _ _ ⟨b4, rfl, rfl⟩
  refine JL.mem rfl rfl (OpM.box rfl rfl) ?_; rintro _ _ ⟨b5, rfl, rfl⟩
  refine JL.mem rfl rfl OpM.alloc ?_; rintro _ _ ⟨b6, rfl, rfl⟩
  refine JL.nil ?_
  refine J.seq ?_
  refine J.region ?_
  refine JL.mem rfl rfl OpM.alloc ?_; rintro _ _ ⟨b7, rfl, rfl⟩
  refine JL.nil ?_
  refine J.seq ?_
  refine J.seq ?_
  refine J.region ?_
  refine JL.pure rfl rfl (OpP.assign rfl) ?_
  refine JL.nil ?_
  refine J.block ?_
  refine J.loopI (fun i : Nat => 32 - i) (fun i => i ≤ 32) (fun i => [(8, .int .i64 (i : Nat)), (3, .pointer (some ⟨b3, 0, none⟩)), (4, .pointer (some ⟨b4, 0, none⟩)), (5, .pointer (some ⟨b5, 0, none⟩)), (6, .pointer (some ⟨b6, 0, none⟩)), (7, .pointer (some ⟨b7, 0, none⟩))])
    (fun i => row b7 110 (fc 32 fun j => .bool (if j < i then (x ^^^ y ^^^ z).getLsbD j else false)) :: row b6 110 (List.replicate 32 (.bool false)) :: row b5 110 (fc 32 (bitV z)) :: row b4 110 (fc 32 (bitV y)) :: row b3 110 (fc 32 (bitV x)) :: F) 0 (Nat.zero_le _) (by repeat (first | exact SubEnv.nil | refine SubEnv.cons (by first | rfl | exact congrArg (fun z => some (Value.int .i64 z)) (by omega) | (simp; done)) ?_)) (fun _ h => by dsimp only; rw [← bit_zero (D := fun _ => false) (fun _ => rfl)]; exact h) (fun i hi back => ?_)
  dsimp only at hi back ⊢
  by_cases hlt : i < 32
  · refine J.seq ?_
    refine J.seq ?_
    refine J.region ?_
    refine JL.pure rfl rfl (OpP.move rfl) ?_
    refine JL.decT rfl rfl (OpP.lss rfl rfl) (by omega) ?_
    refine JL.nil ?_
    refine J.condT rfl ?_
    refine J.skip ?_
    refine J.seq ?_
    refine J.block ?_
    refine J.regionD [3, 6, 10] (by kernel_rfl) ?_
    refine DL.pure (i := 0) (by kernel_rfl) (by kernel_rfl) rfl rfl rfl (OpP.move rfl) ?_
    refine DL.pure (i := 1) (by kernel_rfl) (by kernel_rfl) rfl rfl rfl (OpP.move rfl) ?_
    refine DL.pure (i := 2) (by kernel_rfl) (by kernel_rfl) rfl rfl rfl (OpP.indexAddrN rfl rfl (by omega)) ?_
    refine DL.read (i := 3) (by kernel_rfl) (by kernel_rfl) rfl rfl rfl (fun _ h => h) (OpR.load1 rfl (cell_fc (.tail (.tail (.tail (.tail .head)))) rfl (by omega))) ?_
    refine DL.pure (i := 4) (by kernel_rfl) (by kernel_rfl) rfl rfl rfl (OpP.move rfl) ?_
    refine DL.pure (i := 5) (by kernel_rfl) (by kernel_rfl) rfl rfl rfl (OpP.indexAddrN rfl rfl (by omega)) ?_
    refine DL.read (i := 6) (by kernel_rfl) (by kernel_rfl) rfl rfl rfl (fun _ h => h) (OpR.load1 rfl (cell_fc (.tail (.tail (.tail .head))) rfl (by omega))) ?_
    refine DL.dec (i := 7) (by kernel_rfl) (by kernel_rfl) rfl rfl rfl (OpP.neBool rfl rfl) (fun h20 => ?_) (fun h20 => ?_)
    focus
      refine DL.pure (i := 8) (by kernel_rfl) (by kernel_rfl) rfl rfl rfl (OpP.move rfl) ?_
      refine DL.pure (i := 9) (by kernel_rfl) (by kernel_rfl) rfl rfl rfl (OpP.indexAddrN rfl rfl (by omega)) ?_
      refine DL.read (i := 10) (by kernel_rfl) (by kernel_rfl) rfl rfl rfl (fun _ h => h) (OpR.load1 rfl (cell_fc (.tail (.tail .head)) rfl (by omega))) ?_
      refine DL.dec (i := 11) (by kernel_rfl) (by kernel_rfl) rfl rfl rfl (OpP.neBool rfl rfl) (fun h24 => ?_) (fun h24 => ?_)
      focus
        refine DL.pure (i := 12) (by kernel_rfl) (by kernel_rfl) rfl rfl rfl (OpP.indexAddrN rfl rfl (by omega)) ?_
        refine DL.only (i := 13) (by kernel_rfl) ?_
        refine DL1.stepF0 rfl rfl (by kernel_rfl) (OpM.w (by apply OpM.store1 rfl rfl rfl; (case' hu => exact .head); (case' hs => exact spl_fc rfl (by omega)); done)) ?_; rintro _ _ ⟨rfl, rfl⟩
        refine DL.done (by kernel_rfl) ?_
        refine J.inBlock ?_
        refine J.region ?_
        refine JL.pure rfl rfl (OpP.move rfl) ?_
        refine JL.pure rfl rfl (OpP.addI rfl rfl (by omega) (by omega)) ?_
        refine JL.pure rfl rfl (OpP.assign rfl) ?_
        refine JL.nil ?_
      rotate_left 1
      focus
        refine DL.pure (i := 12) (by kernel_rfl) (by kernel_rfl) rfl rfl rfl (OpP.indexAddrN rfl rfl (by omega)) ?_
        refine DL.only (i := 13) (by kernel_rfl) ?_
        refine DL1.stepF0 rfl rfl (by kernel_rfl) (OpM.w (by apply OpM.store1 rfl rfl rfl; (case' hu => exact .head); (case' hs => exact spl_fc rfl (by omega)); done)) ?_; rintro _ _ ⟨rfl, rfl⟩
        refine DL.done (by kernel_rfl) ?_
        refine J.inBlock ?_
        refine J.region ?_
        refine JL.pure rfl rfl (OpP.move rfl) ?_
        refine JL.pure rfl rfl (OpP.addI rfl rfl (by omega) (by omega)) ?_
        refine JL.pure rfl rfl (OpP.assign rfl) ?_
        refine JL.nil ?_
      rotate_left 1
    rotate_left 2
    focus
      refine DL.pure (i := 8) (by kernel_rfl) (by kernel_rfl) rfl rfl rfl (OpP.move rfl) ?_
      refine DL.pure (i := 9) (by kernel_rfl) (by kernel_rfl) rfl rfl rfl (OpP.indexAddrN rfl rfl (by omega)) ?_
      refine DL.read (i := 10) (by kernel_rfl) (by kernel_rfl) rfl rfl rfl (fun _ h => h) (OpR.load1 rfl (cell_fc (.tail (.tail .head)) rfl (by omega))) ?_
      refine DL.dec (i := 11) (by kernel_rfl) (by kernel_rfl) rfl rfl rfl (OpP.neBool rfl rfl) (fun h24 => ?_) (fun h24 => ?_)
      focus
        refine DL.pure (i := 12) (by kernel_rfl) (by kernel_rfl) rfl rfl rfl (OpP.indexAddrN rfl rfl (by omega)) ?_
        refine DL.only (i := 13) (by kernel_rfl) ?_
        refine DL1.stepF0 rfl rfl (by kernel_rfl) (OpM.w (by apply OpM.store1 rfl rfl rfl; (case' hu => exact .head); (case' hs => exact spl_fc rfl (by omega)); done)) ?_; rintro _ _ ⟨rfl, rfl⟩
        refine DL.done (by kernel_rfl) ?_
        refine J.inBlock ?_
        refine J.region ?_
        refine JL.pure rfl rfl (OpP.move rfl) ?_
        refine JL.pure rfl rfl (OpP.addI rfl rfl (by omega) (by omega)) ?_
        refine JL.pure rfl rfl (OpP.assign rfl) ?_
        refine JL.nil ?_
      rotate_left 1
      focus
        refine DL.pure (i := 12) (by kernel_rfl) (by kernel_rfl) rfl rfl rfl (OpP.indexAddrN rfl rfl (by omega)) ?_
        refine DL.only (i := 13) (by kernel_rfl) ?_
        refine DL1.stepF0 rfl rfl (by kernel_rfl) (OpM.w (by apply OpM.store1 rfl rfl rfl; (case' hu => exact .head); (case' hs => exact spl_fc rfl (by omega)); done)) ?_; rintro _ _ ⟨rfl, rfl⟩
        refine DL.done (by kernel_rfl) ?_
        refine J.inBlock ?_
        refine J.region ?_
        refine JL.pure rfl rfl (OpP.move rfl) ?_
        refine JL.pure rfl rfl (OpP.addI rfl rfl (by omega) (by omega)) ?_
        refine JL.pure rfl rfl (OpP.assign rfl) ?_
        refine JL.nil ?_
      rotate_left 1
    rotate_left 2
    all_goals
      refine back (i + 1) (by omega) (by omega) (by repeat (first | exact SubEnv.nil | refine SubEnv.cons (by first | rfl | exact congrArg (fun z => some (Value.int .i64 z)) (by omega) | (simp; done)) ?_)) (fun _ h => ?_)
      rw [upd_bit] at h
      · exact h
      · revert h20 h24
        rw [BitVec.getLsbD_xor, BitVec.getLsbD_xor]
        cases x.getLsbD i <;> cases y.getLsbD i <;> cases z.getLsbD i <;> simp
  · have : i = 32 := by omega
    subst this
    rw [bit_full (D := fun _ => false) (x := x ^^^ y ^^^ z) fun _ _ => rfl]
    refine J.seq ?_
    refine J.seq ?_
    refine J.region ?_
    refine JL.pure rfl rfl (OpP.move rfl) ?_
    refine JL.decF rfl rfl (OpP.lss rfl rfl) (by omega) ?_
    refine JL.nil ?_
    refine J.condF rfl ?_
    refine J.exit rfl ?_
    refine J.seq ?_
    refine J.region ?_
    refine JL.read rfl rfl (OpR.loadN rfl (Cells.full .head) rfl) ?_
    refine JL.mem0 rfl (by apply OpM.storeN rfl rfl (fc_length _ _) (fc_one fun _ => rfl); (case' hu => exact (.tail .head)); (case' hs => exact spl_all (by rfl)); done) ?_; rintro _ _ ⟨rfl, rfl⟩
    refine JL.nil ?_
    refine J.retC rfl rfl (by apply Cells.full; (with_reducible repeat (first | exact .head | apply Has.tail))) (by first | (rw [List.length_append, hdC_len (by first | assumption | exact shaB_length _ _ | solve_by_elim)]; rfl) | exact hdC_len (by first | assumption | exact shaB_length _ _ | solve_by_elim) | (rw [bcells_length]; first | assumption | exact shaB_length _ _ | solve_by_elim) | exact fc_length _ _ | exact fB_length _ _ | rfl) ?_
    exact ⟨_, ⟨rfl, rfl⟩, fun _ h => h.tail.tail.tail.tail.tail⟩

/-- A bit of a word turned right, or moved. -/
theorem rotr_bit (x : BitVec 32) {n j : Nat} (h0 : 0 < n) (h1 : n < 32) (hj : j < 32) : (rotr x n).getLsbD j = if j + n < 32 then x.getLsbD (j + n) else x.getLsbD (j + n - 32) := by
  rw [rotr, BitVec.getLsbD_or, BitVec.getLsbD_shiftLeft, BitVec.getLsbD_ushiftRight]
  by_cases h : j + n < 32
  · rw [if_pos h]
    have : j < 32 - n := by omega
    simp [this, Nat.add_comm]
  · rw [if_neg h]
    have e : ¬ j < 32 - n := by omega
    have e2 : x.getLsbD (n + j) = false := BitVec.getLsbD_of_ge _ _ (by omega)
    simp [e, e2, hj]
    congr 1
    omega
def rightW (x : BitVec 32) (n : Nat) (r : Bool) : BitVec 32 := if r then rotr x n else x >>> n
theorem Right_ok {w0 : World} {F : List HProp} {x : BitVec 32} {n : Nat} {r : Bool} (h0 : 0 < n) (h1 : n < 32) :
    FnO Tryd.prog w0 70 [.agg (fc 32 (bitV x)).toArray, .int .i64 (n : Nat), .bool r] F (fun v l' => v = .agg (fc 32 (bitV (rightW x n r))).toArray ∧ l' = F) := by
  refine FnO.weak ?_
  refine FnO.intro (n := 34) Tryd.func70 rfl rfl rfl ?_
  refine J.seq ?_
  refine J.region ?_
  refine JL.mem rfl rfl (OpM.box rfl rfl) ?_; rintro _ _ ⟨b3, rfl, rfl⟩
  refine JL.mem rfl rfl OpM.alloc ?_; rintro _ _ ⟨b6, rfl, rfl⟩
  refine JL.nil ?_
  refine J.seq ?_
  refine J.region ?_
  refine JL.mem rfl rfl OpM.alloc ?_; rintro _ _ ⟨b7, rfl, rfl⟩
  refine JL.nil ?_
  refine J.seq ?_
  refine J.seq ?_
  refine J.region ?_
  refine JL.pure rfl rfl (OpP.assign rfl) ?_
  refine JL.nil ?_
  refine J.block ?_
  refine J.loopI (fun i : Nat => 32 - i) (fun i => i ≤ 32) (fun i => [(8, .int .i64 (i : Nat)), (1, .int .i64 (n : Nat)), (2, .bool r), (3, .pointer (some ⟨b3, 0, none⟩)), (6, .pointer (some ⟨b6, 0, none⟩)), (7, .pointer (some ⟨b7, 0, none⟩))])
    (fun i => row b7 110 (fc 32 fun j => .bool (if j < i then (rightW x n r).getLsbD j else false)) :: row b6 110 (List.replicate 32 (.bool false)) :: row b3 110 (fc 32 (bitV x)) :: F) 0 (Nat.zero_le _) (by repeat (first | exact SubEnv.nil | refine SubEnv.cons (by first | rfl | exact congrArg (fun z => some (Value.int .i64 z)) (by omega) | (simp; done)) ?_)) (fun _ h => by dsimp only; rw [← bit_zero (D := fun _ => false) (fun _ => rfl)]; exact h) (fun i hi back => ?_)
  dsimp only at hi back ⊢
  by_cases hlt : i < 32
  · refine J.seq ?_
    refine J.seq ?_
    refine J.region ?_
    refine JL.pure rfl rfl (OpP.move rfl) ?_
    refine JL.decT rfl rfl (OpP.lss rfl rfl) (by omega) ?_
    refine JL.nil ?_
    refine J.condT rfl ?_
    refine J.skip ?_
    refine J.seq ?_
    refine J.block ?_
    refine J.seq ?_
    refine J.region ?_
    refine JL.pure rfl rfl (OpP.move rfl) ?_
    refine JL.pure rfl rfl (OpP.move rfl) ?_
    refine JL.pure rfl rfl (OpP.addI rfl rfl (by omega) (by omega)) ?_
    refine JL.dec rfl rfl (OpP.lss rfl rfl) (fun h16 => ?_) (fun h16 => ?_)
    focus
      refine JL.nil ?_
      refine J.condT rfl ?_
      refine J.region ?_
      refine JL.pure rfl rfl (OpP.move rfl) ?_
      refine JL.pure rfl rfl (OpP.move rfl) ?_
      refine JL.pure rfl rfl (OpP.move rfl) ?_
      refine JL.pure rfl rfl (OpP.addI rfl rfl (by omega) (by omega)) ?_
      refine JL.pure rfl rfl (OpP.indexAddrN rfl rfl (by omega)) ?_
      refine JL.read rfl rfl (OpR.load1 rfl (cell_fc (.tail (.tail .head)) rfl (by omega))) ?_
      refine JL.pure rfl rfl (OpP.indexAddrN rfl rfl (by omega)) ?_
      refine JL.mem0 rfl (by apply OpM.store1 rfl rfl rfl; (case' hu => exact .head); (case' hs => exact spl_fc rfl (by omega)); done) ?_; rintro _ _ ⟨rfl, rfl⟩
      refine JL.nil ?_
      refine J.inBlock ?_
      refine J.region ?_
      refine JL.pure rfl rfl (OpP.move rfl) ?_
      refine JL.pure rfl rfl (OpP.addI rfl rfl (by omega) (by omega)) ?_
      refine JL.pure rfl rfl (OpP.assign rfl) ?_
      refine JL.nil ?_
    rotate_left 1
    focus
      refine JL.nil ?_
      refine J.condF rfl ?_
      refine J.seq ?_
      refine J.region ?_
      refine JL.pure rfl rfl (OpP.move rfl) ?_
      refine JL.nil ?_
      refine J.splitAt 24 rfl (fun h24 => ?_) (fun h24 => ?_)
      focus
        refine J.condT rfl ?_
        refine J.region ?_
        refine JL.pure rfl rfl (OpP.move rfl) ?_
        refine JL.pure rfl rfl (OpP.move rfl) ?_
        refine JL.pure rfl rfl (OpP.move rfl) ?_
        refine JL.pure rfl rfl (OpP.addI rfl rfl (by omega) (by omega)) ?_
        refine JL.pure rfl rfl (OpP.subI rfl rfl (by omega) (by omega)) ?_
        refine JL.pure rfl rfl (OpP.indexAddrF rfl rfl (by omega) (by omega)) ?_
        refine JL.read rfl rfl (OpR.load1 rfl (cell_fc (.tail (.tail .head)) rfl (by omega))) ?_
        refine JL.pure rfl rfl (OpP.indexAddrN rfl rfl (by omega)) ?_
        refine JL.mem0 rfl (by apply OpM.store1 rfl rfl rfl; (case' hu => exact .head); (case' hs => exact spl_fc rfl (by omega)); done) ?_; rintro _ _ ⟨rfl, rfl⟩
        refine JL.nil ?_
        refine J.inBlock ?_
        refine J.region ?_
        refine JL.pure rfl rfl (OpP.move rfl) ?_
        refine JL.pure rfl rfl (OpP.addI rfl rfl (by omega) (by omega)) ?_
        refine JL.pure rfl rfl (OpP.assign rfl) ?_
        refine JL.nil ?_
      rotate_left 1
      focus
        refine J.condF rfl ?_
        refine J.skip ?_
        refine J.inBlock ?_
        refine J.region ?_
        refine JL.pure rfl rfl (OpP.move rfl) ?_
        refine JL.pure rfl rfl (OpP.addI rfl rfl (by omega) (by omega)) ?_
        refine JL.pure rfl rfl (OpP.assign rfl) ?_
        refine JL.nil ?_
      rotate_left 1
    rotate_left 2
    · refine back (i + 1) (by omega) (by omega) (by repeat (first | exact SubEnv.nil | refine SubEnv.cons (by first | rfl | exact congrArg (fun z => some (Value.int .i64 z)) (by omega) | (simp; done)) ?_)) (fun _ h => ?_)
      rw [upd_bit] at h
      · exact h
      · rw [rightW]
        cases r with
        | true => rw [if_pos rfl, rotr_bit x h0 h1 hlt, if_pos (by omega)]
        | false => rw [if_neg (by decide), BitVec.getLsbD_ushiftRight, Nat.add_comm]
    · refine back (i + 1) (by omega) (by omega) (by repeat (first | exact SubEnv.nil | refine SubEnv.cons (by first | rfl | exact congrArg (fun z => some (Value.int .i64 z)) (by omega) | (simp; done)) ?_)) (fun _ h => ?_)
      rw [show ((i : Int) + (n : Int) - 32).toNat = i + n - 32 by omega, upd_bit] at h
      · exact h
      · rw [rightW, if_pos (by assumption), rotr_bit x h0 h1 hlt, if_neg (by omega)]
    · refine back (i + 1) (by omega) (by omega) (by repeat (first | exact SubEnv.nil | refine SubEnv.cons (by first | rfl | exact congrArg (fun z => some (Value.int .i64 z)) (by omega) | (simp; done)) ?_)) (fun _ h => ?_)
      rw [keep_bit] at h
      · exact h
      · have hr : r = false := by assumption
        subst hr
        rw [rightW, if_neg (by decide), BitVec.getLsbD_ushiftRight, BitVec.getLsbD_of_ge _ _ (by omega)]
  · have : i = 32 := by omega
    subst this
    rw [bit_full (D := fun _ => false) (x := rightW x n r) fun _ _ => rfl]
    refine J.seq ?_
    refine J.seq ?_
    refine J.region ?_
    refine JL.pure rfl rfl (OpP.move rfl) ?_
    refine JL.decF rfl rfl (OpP.lss rfl rfl) (by omega) ?_
    refine JL.nil ?_
    refine J.condF rfl ?_
    refine J.exit rfl ?_
    refine J.seq ?_
    refine J.region ?_
    refine JL.read rfl rfl (OpR.loadN rfl (Cells.full .head) rfl) ?_
    refine JL.mem0 rfl (by apply OpM.storeN rfl rfl (fc_length _ _) (fc_one fun _ => rfl); (case' hu => exact (.tail .head)); (case' hs => exact spl_all (by rfl)); done) ?_; rintro _ _ ⟨rfl, rfl⟩
    refine JL.nil ?_
    refine J.retC rfl rfl (by apply Cells.full; (with_reducible repeat (first | exact .head | apply Has.tail))) (by first | (rw [List.length_append, hdC_len (by first | assumption | exact shaB_length _ _ | solve_by_elim)]; rfl) | exact hdC_len (by first | assumption | exact shaB_length _ _ | solve_by_elim) | (rw [bcells_length]; first | assumption | exact shaB_length _ _ | solve_by_elim) | exact fc_length _ _ | exact fB_length _ _ | rfl) ?_
    exact ⟨_, ⟨rfl, rfl⟩, fun _ h => h.tail.tail.tail⟩
theorem Plus_ok {w0 : World} {F : List HProp} {x y : BitVec 32} :
    FnO Tryd.prog w0 71 [.agg (fc 32 (bitV x)).toArray, .agg (fc 32 (bitV y)).toArray] F (fun v l' => v = .agg (fc 32 (bitV (x + y))).toArray ∧ l' = F) := by
  refine FnO.weak ?_
  refine FnO.intro (n := 34) Tryd.func71 rfl rfl rfl ?_
  refine J.seq ?_
  refine J.region ?_
  refine JL.mem rfl rfl (OpM.box rfl rfl) ?_; rintro _ _ ⟨b2, rfl, rfl⟩
  refine JL.mem rfl rfl (OpM.box rfl rfl) ?_; rintro _ _ ⟨b3, rfl, rfl⟩
  refine JL.mem rfl rfl OpM.alloc ?_; rintro _ _ ⟨b4, rfl, rfl⟩
  refine JL.nil ?_
  refine J.seq ?_
  refine J.region ?_
  refine JL.mem rfl rfl OpM.alloc ?_; rintro _ _ ⟨b5, rfl, rfl⟩
  refine JL.nil ?_
  refine J.seq ?_
  refine J.region ?_
  refine JL.pure rfl rfl (OpP.assign rfl) ?_
  refine JL.nil ?_
  refine J.seq ?_
  refine J.seq ?_
  refine J.region ?_
  refine JL.pure rfl rfl (OpP.assign rfl) ?_
  refine JL.nil ?_
  refine J.block ?_
  refine J.loopI (fun i : Nat => 32 - i) (fun i => i ≤ 32) (fun i => [(7, .int .i64 (i : Nat)), (6, .bool (BitVec.carry i x y false)), (2, .pointer (some ⟨b2, 0, none⟩)), (3, .pointer (some ⟨b3, 0, none⟩)), (4, .pointer (some ⟨b4, 0, none⟩)), (5, .pointer (some ⟨b5, 0, none⟩))])
    (fun i => row b5 110 (fc 32 fun j => .bool (if j < i then (x + y).getLsbD j else false)) :: row b4 110 (List.replicate 32 (.bool false)) :: row b3 110 (fc 32 (bitV y)) :: row b2 110 (fc 32 (bitV x)) :: F) 0 (Nat.zero_le _) (by rw [BitVec.carry_zero]; exact (by repeat (first | exact SubEnv.nil | refine SubEnv.cons (by first | rfl | exact congrArg (fun z => some (Value.int .i64 z)) (by omega) | (simp; done)) ?_))) (fun _ h => by dsimp only; rw [← bit_zero (D := fun _ => false) (fun _ => rfl)]; exact h) (fun i hi back => ?_)
  dsimp only at hi back ⊢
  by_cases hlt : i < 32
  · have hs := BitVec.getLsbD_add hlt x y
    have hc := BitVec.carry_succ i x y false
    generalize ha : x.getLsbD i = a at hs hc
    generalize hb : y.getLsbD i = b at hs hc
    generalize BitVec.carry i x y false = c at hs hc ⊢
    refine J.seq ?_
    refine J.seq ?_
    refine J.region ?_
    refine JL.pure rfl rfl (OpP.move rfl) ?_
    refine JL.decT rfl rfl (OpP.lss rfl rfl) (by omega) ?_
    refine JL.nil ?_
    refine J.condT rfl ?_
    refine J.skip ?_
    refine J.seq ?_
    refine J.block ?_
    refine J.seq ?_
    refine J.region ?_
    refine JL.pure rfl rfl (OpP.assign rfl) ?_
    refine JL.nil ?_
    refine J.seq ?_
    refine J.seq ?_
    refine J.region ?_
    refine JL.pure rfl rfl (OpP.move rfl) ?_
    refine JL.pure rfl rfl (OpP.indexAddrN rfl rfl (by omega)) ?_
    refine JL.read rfl rfl (OpR.load1 rfl (cell_fc (.tail (.tail (.tail .head))) rfl (by omega))) ?_
    refine JL.nil ?_
    refine J.splitAt 15 rfl (fun h15 => ?_) (fun h15 => ?_)
    focus
      refine J.condT rfl ?_
      refine J.region ?_
      refine JL.pure rfl rfl (OpP.move rfl) ?_
      refine JL.pure rfl rfl (OpP.addI rfl rfl (by omega) (by omega)) ?_
      refine JL.pure rfl rfl (OpP.assign rfl) ?_
      refine JL.nil ?_
      refine J.seq ?_
      refine J.seq ?_
      refine J.region ?_
      refine JL.pure rfl rfl (OpP.move rfl) ?_
      refine JL.pure rfl rfl (OpP.indexAddrN rfl rfl (by omega)) ?_
      refine JL.read rfl rfl (OpR.load1 rfl (cell_fc (.tail (.tail .head)) rfl (by omega))) ?_
      refine JL.nil ?_
      refine J.splitAt 20 rfl (fun h20 => ?_) (fun h20 => ?_)
      focus
        refine J.condT rfl ?_
        refine J.region ?_
        refine JL.pure rfl rfl (OpP.move rfl) ?_
        refine JL.pure rfl rfl (OpP.addI rfl rfl (by omega) (by omega)) ?_
        refine JL.pure rfl rfl (OpP.assign rfl) ?_
        refine JL.nil ?_
        refine J.seq ?_
        refine J.seq ?_
        refine J.region ?_
        refine JL.pure rfl rfl (OpP.move rfl) ?_
        refine JL.nil ?_
        refine J.splitAt 23 rfl (fun h23 => ?_) (fun h23 => ?_)
        focus
          refine J.condT rfl ?_
          refine J.region ?_
          refine JL.pure rfl rfl (OpP.move rfl) ?_
          refine JL.pure rfl rfl (OpP.addI rfl rfl (by omega) (by omega)) ?_
          refine JL.pure rfl rfl (OpP.assign rfl) ?_
          refine JL.nil ?_
          refine J.seq ?_
          refine J.region ?_
          refine JL.pure rfl rfl (OpP.move rfl) ?_
          refine JL.pure rfl rfl (OpP.move rfl) ?_
          refine JL.pure rfl rfl (OpP.remI rfl rfl (by first | omega | exact Int.natCast_nonneg _) (by omega)) ?_
          refine JL.decT rfl rfl (OpP.eql rfl rfl) (by omega) ?_
          refine JL.pure rfl rfl (OpP.indexAddrN rfl rfl (by omega)) ?_
          refine JL.mem0 rfl (by apply OpM.store1 rfl rfl rfl; (case' hu => exact .head); (case' hs => exact spl_fc rfl (by omega)); done) ?_; rintro _ _ ⟨rfl, rfl⟩
          refine JL.nil ?_
          refine J.region ?_
          refine JL.pure rfl rfl (OpP.move rfl) ?_
          refine JL.decT rfl rfl (OpP.geq rfl rfl) (by omega) ?_
          refine JL.pure rfl rfl (OpP.assign rfl) ?_
          refine JL.nil ?_
          refine J.inBlock ?_
          refine J.region ?_
          refine JL.pure rfl rfl (OpP.move rfl) ?_
          refine JL.pure rfl rfl (OpP.addI rfl rfl (by omega) (by omega)) ?_
          refine JL.pure rfl rfl (OpP.assign rfl) ?_
          refine JL.nil ?_
        rotate_left 1
        focus
          refine J.condF rfl ?_
          refine J.skip ?_
          refine J.seq ?_
          refine J.region ?_
          refine JL.pure rfl rfl (OpP.move rfl) ?_
          refine JL.pure rfl rfl (OpP.move rfl) ?_
          refine JL.pure rfl rfl (OpP.remI rfl rfl (by first | omega | exact Int.natCast_nonneg _) (by omega)) ?_
          refine JL.decF rfl rfl (OpP.eql rfl rfl) (by omega) ?_
          refine JL.pure rfl rfl (OpP.indexAddrN rfl rfl (by omega)) ?_
          refine JL.mem0 rfl (by apply OpM.store1 rfl rfl rfl; (case' hu => exact .head); (case' hs => exact spl_fc rfl (by omega)); done) ?_; rintro _ _ ⟨rfl, rfl⟩
          refine JL.nil ?_
          refine J.region ?_
          refine JL.pure rfl rfl (OpP.move rfl) ?_
          refine JL.decT rfl rfl (OpP.geq rfl rfl) (by omega) ?_
          refine JL.pure rfl rfl (OpP.assign rfl) ?_
          refine JL.nil ?_
          refine J.inBlock ?_
          refine J.region ?_
          refine JL.pure rfl rfl (OpP.move rfl) ?_
          refine JL.pure rfl rfl (OpP.addI rfl rfl (by omega) (by omega)) ?_
          refine JL.pure rfl rfl (OpP.assign rfl) ?_
          refine JL.nil ?_
        rotate_left 1
      rotate_left 2
      focus
        refine J.condF rfl ?_
        refine J.skip ?_
        refine J.seq ?_
        refine J.seq ?_
        refine J.region ?_
        refine JL.pure rfl rfl (OpP.move rfl) ?_
        refine JL.nil ?_
        refine J.splitAt 23 rfl (fun h23 => ?_) (fun h23 => ?_)
        focus
          refine J.condT rfl ?_
          refine J.region ?_
          refine JL.pure rfl rfl (OpP.move rfl) ?_
          refine JL.pure rfl rfl (OpP.addI rfl rfl (by omega) (by omega)) ?_
          refine JL.pure rfl rfl (OpP.assign rfl) ?_
          refine JL.nil ?_
          refine J.seq ?_
          refine J.region ?_
          refine JL.pure rfl rfl (OpP.move rfl) ?_
          refine JL.pure rfl rfl (OpP.move rfl) ?_
          refine JL.pure rfl rfl (OpP.remI rfl rfl (by first | omega | exact Int.natCast_nonneg _) (by omega)) ?_
          refine JL.decF rfl rfl (OpP.eql rfl rfl) (by omega) ?_
          refine JL.pure rfl rfl (OpP.indexAddrN rfl rfl (by omega)) ?_
          refine JL.mem0 rfl (by apply OpM.store1 rfl rfl rfl; (case' hu => exact .head); (case' hs => exact spl_fc rfl (by omega)); done) ?_; rintro _ _ ⟨rfl, rfl⟩
          refine JL.nil ?_
          refine J.region ?_
          refine JL.pure rfl rfl (OpP.move rfl) ?_
          refine JL.decT rfl rfl (OpP.geq rfl rfl) (by omega) ?_
          refine JL.pure rfl rfl (OpP.assign rfl) ?_
          refine JL.nil ?_
          refine J.inBlock ?_
          refine J.region ?_
          refine JL.pure rfl rfl (OpP.move rfl) ?_
          refine JL.pure rfl rfl (OpP.addI rfl rfl (by omega) (by omega)) ?_
          refine JL.pure rfl rfl (OpP.assign rfl) ?_
          refine JL.nil ?_
        rotate_left 1
        focus
          refine J.condF rfl ?_
          refine J.skip ?_
          refine J.seq ?_
          refine J.region ?_
          refine JL.pure rfl rfl (OpP.move rfl) ?_
          refine JL.pure rfl rfl (OpP.move rfl) ?_
          refine JL.pure rfl rfl (OpP.remI rfl rfl (by first | omega | exact Int.natCast_nonneg _) (by omega)) ?_
          refine JL.decT rfl rfl (OpP.eql rfl rfl) (by omega) ?_
          refine JL.pure rfl rfl (OpP.indexAddrN rfl rfl (by omega)) ?_
          refine JL.mem0 rfl (by apply OpM.store1 rfl rfl rfl; (case' hu => exact .head); (case' hs => exact spl_fc rfl (by omega)); done) ?_; rintro _ _ ⟨rfl, rfl⟩
          refine JL.nil ?_
          refine J.region ?_
          refine JL.pure rfl rfl (OpP.move rfl) ?_
          refine JL.decF rfl rfl (OpP.geq rfl rfl) (by omega) ?_
          refine JL.pure rfl rfl (OpP.assign rfl) ?_
          refine JL.nil ?_
          refine J.inBlock ?_
          refine J.region ?_
          refine JL.pure rfl rfl (OpP.move rfl) ?_
          refine JL.pure rfl rfl (OpP.addI rfl rfl (by omega) (by omega)) ?_
          refine JL.pure rfl rfl (OpP.assign rfl) ?_
          refine JL.nil ?_
        rotate_left 1
      rotate_left 2
    rotate_left 4
    focus
      refine J.condF rfl ?_
      refine J.skip ?_
      refine J.seq ?_
      refine J.seq ?_
      refine J.region ?_
      refine JL.pure rfl rfl (OpP.move rfl) ?_
      refine JL.pure rfl rfl (OpP.indexAddrN rfl rfl (by omega)) ?_
      refine JL.read rfl rfl (OpR.load1 rfl (cell_fc (.tail (.tail .head)) rfl (by omega))) ?_
      refine JL.nil ?_
      refine J.splitAt 20 rfl (fun h20 => ?_) (fun h20 => ?_)
      focus
        refine J.condT rfl ?_
        refine J.region ?_
        refine JL.pure rfl rfl (OpP.move rfl) ?_
        refine JL.pure rfl rfl (OpP.addI rfl rfl (by omega) (by omega)) ?_
        refine JL.pure rfl rfl (OpP.assign rfl) ?_
        refine JL.nil ?_
        refine J.seq ?_
        refine J.seq ?_
        refine J.region ?_
        refine JL.pure rfl rfl (OpP.move rfl) ?_
        refine JL.nil ?_
        refine J.splitAt 23 rfl (fun h23 => ?_) (fun h23 => ?_)
        focus
          refine J.condT rfl ?_
          refine J.region ?_
          refine JL.pure rfl rfl (OpP.move rfl) ?_
          refine JL.pure rfl rfl (OpP.addI rfl rfl (by omega) (by omega)) ?_
          refine JL.pure rfl rfl (OpP.assign rfl) ?_
          refine JL.nil ?_
          refine J.seq ?_
          refine J.region ?_
          refine JL.pure rfl rfl (OpP.move rfl) ?_
          refine JL.pure rfl rfl (OpP.move rfl) ?_
          refine JL.pure rfl rfl (OpP.remI rfl rfl (by first | omega | exact Int.natCast_nonneg _) (by omega)) ?_
          refine JL.decF rfl rfl (OpP.eql rfl rfl) (by omega) ?_
          refine JL.pure rfl rfl (OpP.indexAddrN rfl rfl (by omega)) ?_
          refine JL.mem0 rfl (by apply OpM.store1 rfl rfl rfl; (case' hu => exact .head); (case' hs => exact spl_fc rfl (by omega)); done) ?_; rintro _ _ ⟨rfl, rfl⟩
          refine JL.nil ?_
          refine J.region ?_
          refine JL.pure rfl rfl (OpP.move rfl) ?_
          refine JL.decT rfl rfl (OpP.geq rfl rfl) (by omega) ?_
          refine JL.pure rfl rfl (OpP.assign rfl) ?_
          refine JL.nil ?_
          refine J.inBlock ?_
          refine J.region ?_
          refine JL.pure rfl rfl (OpP.move rfl) ?_
          refine JL.pure rfl rfl (OpP.addI rfl rfl (by omega) (by omega)) ?_
          refine JL.pure rfl rfl (OpP.assign rfl) ?_
          refine JL.nil ?_
        rotate_left 1
        focus
          refine J.condF rfl ?_
          refine J.skip ?_
          refine J.seq ?_
          refine J.region ?_
          refine JL.pure rfl rfl (OpP.move rfl) ?_
          refine JL.pure rfl rfl (OpP.move rfl) ?_
          refine JL.pure rfl rfl (OpP.remI rfl rfl (by first | omega | exact Int.natCast_nonneg _) (by omega)) ?_
          refine JL.decT rfl rfl (OpP.eql rfl rfl) (by omega) ?_
          refine JL.pure rfl rfl (OpP.indexAddrN rfl rfl (by omega)) ?_
          refine JL.mem0 rfl (by apply OpM.store1 rfl rfl rfl; (case' hu => exact .head); (case' hs => exact spl_fc rfl (by omega)); done) ?_; rintro _ _ ⟨rfl, rfl⟩
          refine JL.nil ?_
          refine J.region ?_
          refine JL.pure rfl rfl (OpP.move rfl) ?_
          refine JL.decF rfl rfl (OpP.geq rfl rfl) (by omega) ?_
          refine JL.pure rfl rfl (OpP.assign rfl) ?_
          refine JL.nil ?_
          refine J.inBlock ?_
          refine J.region ?_
          refine JL.pure rfl rfl (OpP.move rfl) ?_
          refine JL.pure rfl rfl (OpP.addI rfl rfl (by omega) (by omega)) ?_
          refine JL.pure rfl rfl (OpP.assign rfl) ?_
          refine JL.nil ?_
        rotate_left 1
      rotate_left 2
      focus
        refine J.condF rfl ?_
        refine J.skip ?_
        refine J.seq ?_
        refine J.seq ?_
        refine J.region ?_
        refine JL.pure rfl rfl (OpP.move rfl) ?_
        refine JL.nil ?_
        refine J.splitAt 23 rfl (fun h23 => ?_) (fun h23 => ?_)
        focus
          refine J.condT rfl ?_
          refine J.region ?_
          refine JL.pure rfl rfl (OpP.move rfl) ?_
          refine JL.pure rfl rfl (OpP.addI rfl rfl (by omega) (by omega)) ?_
          refine JL.pure rfl rfl (OpP.assign rfl) ?_
          refine JL.nil ?_
          refine J.seq ?_
          refine J.region ?_
          refine JL.pure rfl rfl (OpP.move rfl) ?_
          refine JL.pure rfl rfl (OpP.move rfl) ?_
          refine JL.pure rfl rfl (OpP.remI rfl rfl (by first | omega | exact Int.natCast_nonneg _) (by omega)) ?_
          refine JL.decT rfl rfl (OpP.eql rfl rfl) (by omega) ?_
          refine JL.pure rfl rfl (OpP.indexAddrN rfl rfl (by omega)) ?_
          refine JL.mem0 rfl (by apply OpM.store1 rfl rfl rfl; (case' hu => exact .head); (case' hs => exact spl_fc rfl (by omega)); done) ?_; rintro _ _ ⟨rfl, rfl⟩
          refine JL.nil ?_
          refine J.region ?_
          refine JL.pure rfl rfl (OpP.move rfl) ?_
          refine JL.decF rfl rfl (OpP.geq rfl rfl) (by omega) ?_
          refine JL.pure rfl rfl (OpP.assign rfl) ?_
          refine JL.nil ?_
          refine J.inBlock ?_
          refine J.region ?_
          refine JL.pure rfl rfl (OpP.move rfl) ?_
          refine JL.pure rfl rfl (OpP.addI rfl rfl (by omega) (by omega)) ?_
          refine JL.pure rfl rfl (OpP.assign rfl) ?_
          refine JL.nil ?_
        rotate_left 1
        focus
          refine J.condF rfl ?_
          refine J.skip ?_
          refine J.seq ?_
          refine J.region ?_
          refine JL.pure rfl rfl (OpP.move rfl) ?_
          refine JL.pure rfl rfl (OpP.move rfl) ?_
          refine JL.pure rfl rfl (OpP.remI rfl rfl (by first | omega | exact Int.natCast_nonneg _) (by omega)) ?_
          refine JL.decF rfl rfl (OpP.eql rfl rfl) (by omega) ?_
          refine JL.pure rfl rfl (OpP.indexAddrN rfl rfl (by omega)) ?_
          refine JL.mem0 rfl (by apply OpM.store1 rfl rfl rfl; (case' hu => exact .head); (case' hs => exact spl_fc rfl (by omega)); done) ?_; rintro _ _ ⟨rfl, rfl⟩
          refine JL.nil ?_
          refine J.region ?_
          refine JL.pure rfl rfl (OpP.move rfl) ?_
          refine JL.decF rfl rfl (OpP.geq rfl rfl) (by omega) ?_
          refine JL.pure rfl rfl (OpP.assign rfl) ?_
          refine JL.nil ?_
          refine J.inBlock ?_
          refine J.region ?_
          refine JL.pure rfl rfl (OpP.move rfl) ?_
          refine JL.pure rfl rfl (OpP.addI rfl rfl (by omega) (by omega)) ?_
          refine JL.pure rfl rfl (OpP.assign rfl) ?_
          refine JL.nil ?_
        rotate_left 1
      rotate_left 2
    rotate_left 4
    all_goals
      rw [ha] at h15
      rw [hb] at h20
      subst h15 h20 h23
      refine back (i + 1) (by omega) (by omega) (by rw [hc]; exact (by repeat (first | exact SubEnv.nil | refine SubEnv.cons (by first | rfl | exact congrArg (fun z => some (Value.int .i64 z)) (by omega) | (simp; done)) ?_))) (fun _ h => ?_)
      rw [upd_bit] at h
      · exact h
      · rw [hs]; rfl
  · have : i = 32 := by omega
    subst this
    rw [bit_full (D := fun _ => false) (x := x + y) fun _ _ => rfl]
    refine J.seq ?_
    refine J.seq ?_
    refine J.region ?_
    refine JL.pure rfl rfl (OpP.move rfl) ?_
    refine JL.decF rfl rfl (OpP.lss rfl rfl) (by omega) ?_
    refine JL.nil ?_
    refine J.condF rfl ?_
    refine J.exit rfl ?_
    refine J.seq ?_
    refine J.region ?_
    refine JL.read rfl rfl (OpR.loadN rfl (Cells.full .head) rfl) ?_
    refine JL.mem0 rfl (by apply OpM.storeN rfl rfl (fc_length _ _) (fc_one fun _ => rfl); (case' hu => exact (.tail .head)); (case' hs => exact spl_all (by rfl)); done) ?_; rintro _ _ ⟨rfl, rfl⟩
    refine JL.nil ?_
    refine J.retC rfl rfl (by apply Cells.full; (with_reducible repeat (first | exact .head | apply Has.tail))) (by first | (rw [List.length_append, hdC_len (by first | assumption | exact shaB_length _ _ | solve_by_elim)]; rfl) | exact hdC_len (by first | assumption | exact shaB_length _ _ | solve_by_elim) | (rw [bcells_length]; first | assumption | exact shaB_length _ _ | solve_by_elim) | exact fc_length _ _ | exact fB_length _ _ | rfl) ?_
    exact ⟨_, ⟨rfl, rfl⟩, fun _ h => h.tail.tail.tail.tail⟩
theorem Pick_ok {w0 : World} {F : List HProp} {x y z : BitVec 32} :
    FnO Tryd.prog w0 72 [.agg (fc 32 (bitV x)).toArray, .agg (fc 32 (bitV y)).toArray, .agg (fc 32 (bitV z)).toArray] F (fun v l' => v = .agg (fc 32 (bitV (z ^^^ (x &&& (y ^^^ z))))).toArray ∧ l' = F) := by
  refine FnO.weak ?_
  refine FnO.intro (n := 23) Tryd.func72 rfl rfl rfl ?_
  refine J.seq ?_
  refine J.region ?_
  refine JL.mem rfl rfl (OpM.box rfl rfl) ?_; rintro _ _ ⟨b3, rfl, rfl⟩
  refine JL.mem rfl rfl (OpM.box rfl rfl) ?_; rintro _ _ ⟨b4, rfl, rfl⟩
  refine JL.mem rfl rfl (OpM.box rfl rfl) ?_; rintro _ _ ⟨b5, rfl, rfl⟩
  refine JL.mem rfl rfl OpM.alloc ?_; rintro _ _ ⟨b6, rfl, rfl⟩
  refine JL.nil ?_
  refine J.seq ?_
  refine J.region ?_
  refine JL.read rfl rfl (OpR.loadN rfl (Cells.full (.tail .head)) rfl) ?_
  refine JL.mem rfl rfl OpM.alloc ?_; rintro _ _ ⟨b7, rfl, rfl⟩
  refine JL.mem0 rfl (by apply OpM.storeN rfl rfl (fc_length _ _) (fc_one fun _ => rfl); (case' hu => exact .head); (case' hs => exact spl_all (by rfl)); done) ?_; rintro _ _ ⟨rfl, rfl⟩
  refine JL.nil ?_
  refine J.seq ?_
  refine J.seq ?_
  refine J.region ?_
  refine JL.pure rfl rfl (OpP.assign rfl) ?_
  refine JL.nil ?_
  refine J.block ?_
  refine J.loopI (fun i : Nat => 32 - i) (fun i => i ≤ 32) (fun i => [(8, .int .i64 (i : Nat)), (3, .pointer (some ⟨b3, 0, none⟩)), (4, .pointer (some ⟨b4, 0, none⟩)), (5, .pointer (some ⟨b5, 0, none⟩)), (6, .pointer (some ⟨b6, 0, none⟩)), (7, .pointer (some ⟨b7, 0, none⟩))])
    (fun i => row b7 110 (fc 32 fun j => .bool (if j < i then (z ^^^ (x &&& (y ^^^ z))).getLsbD j else z.getLsbD j)) :: row b6 110 (List.replicate 32 (.bool false)) :: row b5 110 (fc 32 (bitV z)) :: row b4 110 (fc 32 (bitV y)) :: row b3 110 (fc 32 (bitV x)) :: F) 0 (Nat.zero_le _) (by repeat (first | exact SubEnv.nil | refine SubEnv.cons (by first | rfl | exact congrArg (fun z => some (Value.int .i64 z)) (by omega) | (simp; done)) ?_)) (fun _ h => h) (fun i hi back => ?_)
  dsimp only at hi back ⊢
  by_cases hlt : i < 32
  · refine J.seq ?_
    refine J.seq ?_
    refine J.region ?_
    refine JL.pure rfl rfl (OpP.move rfl) ?_
    refine JL.decT rfl rfl (OpP.lss rfl rfl) (by omega) ?_
    refine JL.nil ?_
    refine J.condT rfl ?_
    refine J.skip ?_
    refine J.seq ?_
    refine J.block ?_
    refine J.seq ?_
    refine J.region ?_
    refine JL.pure rfl rfl (OpP.move rfl) ?_
    refine JL.pure rfl rfl (OpP.indexAddrN rfl rfl (by omega)) ?_
    refine JL.read rfl rfl (OpR.load1 rfl (cell_fc (.tail (.tail (.tail (.tail .head)))) rfl (by omega))) ?_
    refine JL.nil ?_
    refine J.splitAt 16 rfl (fun h16 => ?_) (fun h16 => ?_)
    focus
      refine J.condT rfl ?_
      refine J.region ?_
      refine JL.pure rfl rfl (OpP.move rfl) ?_
      refine JL.pure rfl rfl (OpP.move rfl) ?_
      refine JL.pure rfl rfl (OpP.indexAddrN rfl rfl (by omega)) ?_
      refine JL.read rfl rfl (OpR.load1 rfl (cell_fc (.tail (.tail (.tail .head))) rfl (by omega))) ?_
      refine JL.pure rfl rfl (OpP.indexAddrN rfl rfl (by omega)) ?_
      refine JL.mem0 rfl (by apply OpM.store1 rfl rfl rfl; (case' hu => exact .head); (case' hs => exact spl_fc rfl (by omega)); done) ?_; rintro _ _ ⟨rfl, rfl⟩
      refine JL.nil ?_
      refine J.inBlock ?_
      refine J.region ?_
      refine JL.pure rfl rfl (OpP.move rfl) ?_
      refine JL.pure rfl rfl (OpP.addI rfl rfl (by omega) (by omega)) ?_
      refine JL.pure rfl rfl (OpP.assign rfl) ?_
      refine JL.nil ?_
    rotate_left 1
    focus
      refine J.condF rfl ?_
      refine J.skip ?_
      refine J.inBlock ?_
      refine J.region ?_
      refine JL.pure rfl rfl (OpP.move rfl) ?_
      refine JL.pure rfl rfl (OpP.addI rfl rfl (by omega) (by omega)) ?_
      refine JL.pure rfl rfl (OpP.assign rfl) ?_
      refine JL.nil ?_
    rotate_left 1
    · refine back (i + 1) (by omega) (by omega) (by repeat (first | exact SubEnv.nil | refine SubEnv.cons (by first | rfl | exact congrArg (fun z => some (Value.int .i64 z)) (by omega) | (simp; done)) ?_)) (fun _ h => ?_)
      rw [upd_bit] at h
      · exact h
      · simp only [BitVec.getLsbD_xor, BitVec.getLsbD_and]
        generalize x.getLsbD i = a at *
        generalize y.getLsbD i = b at *
        generalize z.getLsbD i = c at *
        clear back
        cases a <;> cases b <;> cases c <;> first | rfl | contradiction
    · refine back (i + 1) (by omega) (by omega) (by repeat (first | exact SubEnv.nil | refine SubEnv.cons (by first | rfl | exact congrArg (fun z => some (Value.int .i64 z)) (by omega) | (simp; done)) ?_)) (fun _ h => ?_)
      rw [keep_bit] at h
      · exact h
      · simp only [BitVec.getLsbD_xor, BitVec.getLsbD_and]
        generalize x.getLsbD i = a at *
        generalize y.getLsbD i = b at *
        generalize z.getLsbD i = c at *
        clear back
        cases a <;> cases b <;> cases c <;> first | rfl | contradiction
  · have : i = 32 := by omega
    subst this
    rw [bit_full (D := z.getLsbD) (x := z ^^^ (x &&& (y ^^^ z))) fun _ _ => rfl]
    refine J.seq ?_
    refine J.seq ?_
    refine J.region ?_
    refine JL.pure rfl rfl (OpP.move rfl) ?_
    refine JL.decF rfl rfl (OpP.lss rfl rfl) (by omega) ?_
    refine JL.nil ?_
    refine J.condF rfl ?_
    refine J.exit rfl ?_
    refine J.seq ?_
    refine J.region ?_
    refine JL.read rfl rfl (OpR.loadN rfl (Cells.full .head) rfl) ?_
    refine JL.mem0 rfl (by apply OpM.storeN rfl rfl (fc_length _ _) (fc_one fun _ => rfl); (case' hu => exact (.tail .head)); (case' hs => exact spl_all (by rfl)); done) ?_; rintro _ _ ⟨rfl, rfl⟩
    refine JL.nil ?_
    refine J.retC rfl rfl (by apply Cells.full; (with_reducible repeat (first | exact .head | apply Has.tail))) (by first | (rw [List.length_append, hdC_len (by first | assumption | exact shaB_length _ _ | solve_by_elim)]; rfl) | exact hdC_len (by first | assumption | exact shaB_length _ _ | solve_by_elim) | (rw [bcells_length]; first | assumption | exact shaB_length _ _ | solve_by_elim) | exact fc_length _ _ | exact fB_length _ _ | rfl) ?_
    exact ⟨_, ⟨rfl, rfl⟩, fun _ h => h.tail.tail.tail.tail.tail⟩
theorem Most_ok {w0 : World} {F : List HProp} {x y z : BitVec 32} :
    FnO Tryd.prog w0 73 [.agg (fc 32 (bitV x)).toArray, .agg (fc 32 (bitV y)).toArray, .agg (fc 32 (bitV z)).toArray] F (fun v l' => v = .agg (fc 32 (bitV (x &&& y ||| z &&& (x ||| y)))).toArray ∧ l' = F) := by
  refine FnO.weak ?_
  refine FnO.intro (n := 44) Tryd.func73 rfl rfl rfl ?_
  refine J.seq ?_
  refine J.region ?_
  refine JL.mem rfl rfl (OpM.box rfl rfl) ?_; rintro _ _ ⟨b3, rfl, rfl⟩
  refine JL.mem rfl rfl (OpM.box rfl rfl) ?_; rintro _ _ ⟨b4, rfl, rfl⟩
  refine JL.mem rfl rfl (OpM.box rfl rfl) ?_; rintro _ _ ⟨b5, rfl, rfl⟩
  refine JL.mem rfl rfl OpM.alloc ?_; rintro _ _ ⟨b6, rfl, rfl⟩
  refine JL.nil ?_
  refine J.seq ?_
  refine J.region ?_
  refine JL.mem rfl rfl OpM.alloc ?_; rintro _ _ ⟨b7, rfl, rfl⟩
  refine JL.nil ?_
  refine J.seq ?_
  refine J.seq ?_
  refine J.region ?_
  refine JL.pure rfl rfl (OpP.assign rfl) ?_
  refine JL.nil ?_
  refine J.block ?_
  refine J.loopI (fun i : Nat => 32 - i) (fun i => i ≤ 32) (fun i => [(8, .int .i64 (i : Nat)), (3, .pointer (some ⟨b3, 0, none⟩)), (4, .pointer (some ⟨b4, 0, none⟩)), (5, .pointer (some ⟨b5, 0, none⟩)), (6, .pointer (some ⟨b6, 0, none⟩)), (7, .pointer (some ⟨b7, 0, none⟩))])
    (fun i => row b7 110 (fc 32 fun j => .bool (if j < i then (x &&& y ||| z &&& (x ||| y)).getLsbD j else false)) :: row b6 110 (List.replicate 32 (.bool false)) :: row b5 110 (fc 32 (bitV z)) :: row b4 110 (fc 32 (bitV y)) :: row b3 110 (fc 32 (bitV x)) :: F) 0 (Nat.zero_le _) (by repeat (first | exact SubEnv.nil | refine SubEnv.cons (by first | rfl | exact congrArg (fun z => some (Value.int .i64 z)) (by omega) | (simp; done)) ?_)) (fun _ h => by dsimp only; rw [← bit_zero (D := fun _ => false) (fun _ => rfl)]; exact h) (fun i hi back => ?_)
  dsimp only at hi back ⊢
  by_cases hlt : i < 32
  · refine J.seq ?_
    refine J.seq ?_
    refine J.region ?_
    refine JL.pure rfl rfl (OpP.move rfl) ?_
    refine JL.decT rfl rfl (OpP.lss rfl rfl) (by omega) ?_
    refine JL.nil ?_
    refine J.condT rfl ?_
    refine J.skip ?_
    refine J.seq ?_
    refine J.block ?_
    refine J.region ?_
    refine JL.pure rfl rfl (OpP.move rfl) ?_
    refine JL.pure rfl rfl (OpP.move rfl) ?_
    refine JL.pure rfl rfl (OpP.indexAddrN rfl rfl (by omega)) ?_
    refine JL.read rfl rfl (OpR.load1 rfl (cell_fc (.tail (.tail (.tail (.tail .head)))) rfl (by omega))) ?_
    refine JL.pure rfl rfl (OpP.move rfl) ?_
    refine JL.splitAt 17 rfl (fun h17 => ?_) (fun h17 => ?_)
    focus
      refine JL.pure rfl rfl (OpP.move rfl) ?_
      refine JL.pure rfl rfl (OpP.indexAddrN rfl rfl (by omega)) ?_
      refine JL.read rfl rfl (OpR.load1 rfl (cell_fc (.tail (.tail (.tail .head))) rfl (by omega))) ?_
      refine JL.pure rfl rfl (OpP.pickT rfl rfl) ?_
      refine JL.pure rfl rfl (OpP.move rfl) ?_
      refine JL.splitAt 22 rfl (fun h22 => ?_) (fun h22 => ?_)
      focus
        refine JL.skip rfl rfl ?_
        refine JL.skip rfl rfl ?_
        refine JL.skip rfl rfl ?_
        refine JL.skip rfl rfl ?_
        refine JL.skip rfl rfl ?_
        refine JL.skip rfl rfl ?_
        refine JL.skip rfl rfl ?_
        refine JL.skip rfl rfl ?_
        refine JL.pure rfl rfl (OpP.pickT rfl rfl) ?_
        refine JL.pure rfl rfl (OpP.move rfl) ?_
        refine JL.skip rfl rfl ?_
        refine JL.skip rfl rfl ?_
        refine JL.skip rfl rfl ?_
        refine JL.skip rfl rfl ?_
        refine JL.skip rfl rfl ?_
        refine JL.skip rfl rfl ?_
        refine JL.skip rfl rfl ?_
        refine JL.skip rfl rfl ?_
        refine JL.pure rfl rfl (OpP.pickT rfl rfl) ?_
        refine JL.pure rfl rfl (OpP.indexAddrN rfl rfl (by omega)) ?_
        refine JL.mem0 rfl (by apply OpM.store1 rfl rfl rfl; (case' hu => exact .head); (case' hs => exact spl_fc rfl (by omega)); done) ?_; rintro _ _ ⟨rfl, rfl⟩
        refine JL.nil ?_
        refine J.inBlock ?_
        refine J.region ?_
        refine JL.pure rfl rfl (OpP.move rfl) ?_
        refine JL.pure rfl rfl (OpP.addI rfl rfl (by omega) (by omega)) ?_
        refine JL.pure rfl rfl (OpP.assign rfl) ?_
        refine JL.nil ?_
      rotate_left 1
      focus
        refine JL.pure rfl rfl (OpP.move rfl) ?_
        refine JL.pure rfl rfl (OpP.indexAddrN rfl rfl (by omega)) ?_
        refine JL.read rfl rfl (OpR.load1 rfl (cell_fc (.tail (.tail (.tail (.tail .head)))) rfl (by omega))) ?_
        refine JL.pure rfl rfl (OpP.move rfl) ?_
        refine JL.splitAt 26 rfl (fun h26 => ?_) (fun h26 => ?_)
        focus
          refine JL.pure rfl rfl (OpP.move rfl) ?_
          refine JL.pure rfl rfl (OpP.indexAddrN rfl rfl (by omega)) ?_
          refine JL.read rfl rfl (OpR.load1 rfl (cell_fc (.tail (.tail .head)) rfl (by omega))) ?_
          refine JL.pure rfl rfl (OpP.pickT rfl rfl) ?_
          refine JL.pure rfl rfl (OpP.pickF rfl rfl) ?_
          refine JL.pure rfl rfl (OpP.move rfl) ?_
          refine JL.splitAt 32 rfl (fun h32 => ?_) (fun h32 => ?_)
          focus
            refine JL.skip rfl rfl ?_
            refine JL.skip rfl rfl ?_
            refine JL.skip rfl rfl ?_
            refine JL.skip rfl rfl ?_
            refine JL.skip rfl rfl ?_
            refine JL.skip rfl rfl ?_
            refine JL.skip rfl rfl ?_
            refine JL.skip rfl rfl ?_
            refine JL.pure rfl rfl (OpP.pickT rfl rfl) ?_
            refine JL.pure rfl rfl (OpP.indexAddrN rfl rfl (by omega)) ?_
            refine JL.mem0 rfl (by apply OpM.store1 rfl rfl rfl; (case' hu => exact .head); (case' hs => exact spl_fc rfl (by omega)); done) ?_; rintro _ _ ⟨rfl, rfl⟩
            refine JL.nil ?_
            refine J.inBlock ?_
            refine J.region ?_
            refine JL.pure rfl rfl (OpP.move rfl) ?_
            refine JL.pure rfl rfl (OpP.addI rfl rfl (by omega) (by omega)) ?_
            refine JL.pure rfl rfl (OpP.assign rfl) ?_
            refine JL.nil ?_
          rotate_left 1
          focus
            refine JL.pure rfl rfl (OpP.move rfl) ?_
            refine JL.pure rfl rfl (OpP.indexAddrN rfl rfl (by omega)) ?_
            refine JL.read rfl rfl (OpR.load1 rfl (cell_fc (.tail (.tail (.tail .head))) rfl (by omega))) ?_
            refine JL.pure rfl rfl (OpP.move rfl) ?_
            refine JL.splitAt 36 rfl (fun h36 => ?_) (fun h36 => ?_)
            focus
              refine JL.pure rfl rfl (OpP.move rfl) ?_
              refine JL.pure rfl rfl (OpP.indexAddrN rfl rfl (by omega)) ?_
              refine JL.read rfl rfl (OpR.load1 rfl (cell_fc (.tail (.tail .head)) rfl (by omega))) ?_
              refine JL.pure rfl rfl (OpP.pickT rfl rfl) ?_
              refine JL.pure rfl rfl (OpP.pickF rfl rfl) ?_
              refine JL.pure rfl rfl (OpP.indexAddrN rfl rfl (by omega)) ?_
              refine JL.mem0 rfl (by apply OpM.store1 rfl rfl rfl; (case' hu => exact .head); (case' hs => exact spl_fc rfl (by omega)); done) ?_; rintro _ _ ⟨rfl, rfl⟩
              refine JL.nil ?_
              refine J.inBlock ?_
              refine J.region ?_
              refine JL.pure rfl rfl (OpP.move rfl) ?_
              refine JL.pure rfl rfl (OpP.addI rfl rfl (by omega) (by omega)) ?_
              refine JL.pure rfl rfl (OpP.assign rfl) ?_
              refine JL.nil ?_
            rotate_left 1
            focus
              refine JL.skip rfl rfl ?_
              refine JL.skip rfl rfl ?_
              refine JL.skip rfl rfl ?_
              refine JL.pure rfl rfl (OpP.pickF rfl rfl) ?_
              refine JL.pure rfl rfl (OpP.pickF rfl rfl) ?_
              refine JL.pure rfl rfl (OpP.indexAddrN rfl rfl (by omega)) ?_
              refine JL.mem0 rfl (by apply OpM.store1 rfl rfl rfl; (case' hu => exact .head); (case' hs => exact spl_fc rfl (by omega)); done) ?_; rintro _ _ ⟨rfl, rfl⟩
              refine JL.nil ?_
              refine J.inBlock ?_
              refine J.region ?_
              refine JL.pure rfl rfl (OpP.move rfl) ?_
              refine JL.pure rfl rfl (OpP.addI rfl rfl (by omega) (by omega)) ?_
              refine JL.pure rfl rfl (OpP.assign rfl) ?_
              refine JL.nil ?_
            rotate_left 1
          rotate_left 2
        rotate_left 3
        focus
          refine JL.skip rfl rfl ?_
          refine JL.skip rfl rfl ?_
          refine JL.skip rfl rfl ?_
          refine JL.pure rfl rfl (OpP.pickF rfl rfl) ?_
          refine JL.pure rfl rfl (OpP.pickF rfl rfl) ?_
          refine JL.pure rfl rfl (OpP.move rfl) ?_
          refine JL.pure rfl rfl (OpP.move rfl) ?_
          refine JL.pure rfl rfl (OpP.indexAddrN rfl rfl (by omega)) ?_
          refine JL.read rfl rfl (OpR.load1 rfl (cell_fc (.tail (.tail (.tail .head))) rfl (by omega))) ?_
          refine JL.pure rfl rfl (OpP.move rfl) ?_
          refine JL.splitAt 36 rfl (fun h36 => ?_) (fun h36 => ?_)
          focus
            refine JL.pure rfl rfl (OpP.move rfl) ?_
            refine JL.pure rfl rfl (OpP.indexAddrN rfl rfl (by omega)) ?_
            refine JL.read rfl rfl (OpR.load1 rfl (cell_fc (.tail (.tail .head)) rfl (by omega))) ?_
            refine JL.pure rfl rfl (OpP.pickT rfl rfl) ?_
            refine JL.pure rfl rfl (OpP.pickF rfl rfl) ?_
            refine JL.pure rfl rfl (OpP.indexAddrN rfl rfl (by omega)) ?_
            refine JL.mem0 rfl (by apply OpM.store1 rfl rfl rfl; (case' hu => exact .head); (case' hs => exact spl_fc rfl (by omega)); done) ?_; rintro _ _ ⟨rfl, rfl⟩
            refine JL.nil ?_
            refine J.inBlock ?_
            refine J.region ?_
            refine JL.pure rfl rfl (OpP.move rfl) ?_
            refine JL.pure rfl rfl (OpP.addI rfl rfl (by omega) (by omega)) ?_
            refine JL.pure rfl rfl (OpP.assign rfl) ?_
            refine JL.nil ?_
          rotate_left 1
          focus
            refine JL.skip rfl rfl ?_
            refine JL.skip rfl rfl ?_
            refine JL.skip rfl rfl ?_
            refine JL.pure rfl rfl (OpP.pickF rfl rfl) ?_
            refine JL.pure rfl rfl (OpP.pickF rfl rfl) ?_
            refine JL.pure rfl rfl (OpP.indexAddrN rfl rfl (by omega)) ?_
            refine JL.mem0 rfl (by apply OpM.store1 rfl rfl rfl; (case' hu => exact .head); (case' hs => exact spl_fc rfl (by omega)); done) ?_; rintro _ _ ⟨rfl, rfl⟩
            refine JL.nil ?_
            refine J.inBlock ?_
            refine J.region ?_
            refine JL.pure rfl rfl (OpP.move rfl) ?_
            refine JL.pure rfl rfl (OpP.addI rfl rfl (by omega) (by omega)) ?_
            refine JL.pure rfl rfl (OpP.assign rfl) ?_
            refine JL.nil ?_
          rotate_left 1
        rotate_left 2
      rotate_left 5
    rotate_left 6
    focus
      refine JL.skip rfl rfl ?_
      refine JL.skip rfl rfl ?_
      refine JL.skip rfl rfl ?_
      refine JL.pure rfl rfl (OpP.pickF rfl rfl) ?_
      refine JL.pure rfl rfl (OpP.move rfl) ?_
      refine JL.pure rfl rfl (OpP.move rfl) ?_
      refine JL.pure rfl rfl (OpP.indexAddrN rfl rfl (by omega)) ?_
      refine JL.read rfl rfl (OpR.load1 rfl (cell_fc (.tail (.tail (.tail (.tail .head)))) rfl (by omega))) ?_
      refine JL.pure rfl rfl (OpP.move rfl) ?_
      refine JL.splitAt 26 rfl (fun h26 => ?_) (fun h26 => ?_)
      focus
        refine JL.pure rfl rfl (OpP.move rfl) ?_
        refine JL.pure rfl rfl (OpP.indexAddrN rfl rfl (by omega)) ?_
        refine JL.read rfl rfl (OpR.load1 rfl (cell_fc (.tail (.tail .head)) rfl (by omega))) ?_
        refine JL.pure rfl rfl (OpP.pickT rfl rfl) ?_
        refine JL.pure rfl rfl (OpP.pickF rfl rfl) ?_
        refine JL.pure rfl rfl (OpP.move rfl) ?_
        refine JL.splitAt 32 rfl (fun h32 => ?_) (fun h32 => ?_)
        focus
          refine JL.skip rfl rfl ?_
          refine JL.skip rfl rfl ?_
          refine JL.skip rfl rfl ?_
          refine JL.skip rfl rfl ?_
          refine JL.skip rfl rfl ?_
          refine JL.skip rfl rfl ?_
          refine JL.skip rfl rfl ?_
          refine JL.skip rfl rfl ?_
          refine JL.pure rfl rfl (OpP.pickT rfl rfl) ?_
          refine JL.pure rfl rfl (OpP.indexAddrN rfl rfl (by omega)) ?_
          refine JL.mem0 rfl (by apply OpM.store1 rfl rfl rfl; (case' hu => exact .head); (case' hs => exact spl_fc rfl (by omega)); done) ?_; rintro _ _ ⟨rfl, rfl⟩
          refine JL.nil ?_
          refine J.inBlock ?_
          refine J.region ?_
          refine JL.pure rfl rfl (OpP.move rfl) ?_
          refine JL.pure rfl rfl (OpP.addI rfl rfl (by omega) (by omega)) ?_
          refine JL.pure rfl rfl (OpP.assign rfl) ?_
          refine JL.nil ?_
        rotate_left 1
        focus
          refine JL.pure rfl rfl (OpP.move rfl) ?_
          refine JL.pure rfl rfl (OpP.indexAddrN rfl rfl (by omega)) ?_
          refine JL.read rfl rfl (OpR.load1 rfl (cell_fc (.tail (.tail (.tail .head))) rfl (by omega))) ?_
          refine JL.pure rfl rfl (OpP.move rfl) ?_
          refine JL.splitAt 36 rfl (fun h36 => ?_) (fun h36 => ?_)
          focus
            refine JL.pure rfl rfl (OpP.move rfl) ?_
            refine JL.pure rfl rfl (OpP.indexAddrN rfl rfl (by omega)) ?_
            refine JL.read rfl rfl (OpR.load1 rfl (cell_fc (.tail (.tail .head)) rfl (by omega))) ?_
            refine JL.pure rfl rfl (OpP.pickT rfl rfl) ?_
            refine JL.pure rfl rfl (OpP.pickF rfl rfl) ?_
            refine JL.pure rfl rfl (OpP.indexAddrN rfl rfl (by omega)) ?_
            refine JL.mem0 rfl (by apply OpM.store1 rfl rfl rfl; (case' hu => exact .head); (case' hs => exact spl_fc rfl (by omega)); done) ?_; rintro _ _ ⟨rfl, rfl⟩
            refine JL.nil ?_
            refine J.inBlock ?_
            refine J.region ?_
            refine JL.pure rfl rfl (OpP.move rfl) ?_
            refine JL.pure rfl rfl (OpP.addI rfl rfl (by omega) (by omega)) ?_
            refine JL.pure rfl rfl (OpP.assign rfl) ?_
            refine JL.nil ?_
          rotate_left 1
          focus
            refine JL.skip rfl rfl ?_
            refine JL.skip rfl rfl ?_
            refine JL.skip rfl rfl ?_
            refine JL.pure rfl rfl (OpP.pickF rfl rfl) ?_
            refine JL.pure rfl rfl (OpP.pickF rfl rfl) ?_
            refine JL.pure rfl rfl (OpP.indexAddrN rfl rfl (by omega)) ?_
            refine JL.mem0 rfl (by apply OpM.store1 rfl rfl rfl; (case' hu => exact .head); (case' hs => exact spl_fc rfl (by omega)); done) ?_; rintro _ _ ⟨rfl, rfl⟩
            refine JL.nil ?_
            refine J.inBlock ?_
            refine J.region ?_
            refine JL.pure rfl rfl (OpP.move rfl) ?_
            refine JL.pure rfl rfl (OpP.addI rfl rfl (by omega) (by omega)) ?_
            refine JL.pure rfl rfl (OpP.assign rfl) ?_
            refine JL.nil ?_
          rotate_left 1
        rotate_left 2
      rotate_left 3
      focus
        refine JL.skip rfl rfl ?_
        refine JL.skip rfl rfl ?_
        refine JL.skip rfl rfl ?_
        refine JL.pure rfl rfl (OpP.pickF rfl rfl) ?_
        refine JL.pure rfl rfl (OpP.pickF rfl rfl) ?_
        refine JL.pure rfl rfl (OpP.move rfl) ?_
        refine JL.pure rfl rfl (OpP.move rfl) ?_
        refine JL.pure rfl rfl (OpP.indexAddrN rfl rfl (by omega)) ?_
        refine JL.read rfl rfl (OpR.load1 rfl (cell_fc (.tail (.tail (.tail .head))) rfl (by omega))) ?_
        refine JL.pure rfl rfl (OpP.move rfl) ?_
        refine JL.splitAt 36 rfl (fun h36 => ?_) (fun h36 => ?_)
        focus
          refine JL.pure rfl rfl (OpP.move rfl) ?_
          refine JL.pure rfl rfl (OpP.indexAddrN rfl rfl (by omega)) ?_
          refine JL.read rfl rfl (OpR.load1 rfl (cell_fc (.tail (.tail .head)) rfl (by omega))) ?_
          refine JL.pure rfl rfl (OpP.pickT rfl rfl) ?_
          refine JL.pure rfl rfl (OpP.pickF rfl rfl) ?_
          refine JL.pure rfl rfl (OpP.indexAddrN rfl rfl (by omega)) ?_
          refine JL.mem0 rfl (by apply OpM.store1 rfl rfl rfl; (case' hu => exact .head); (case' hs => exact spl_fc rfl (by omega)); done) ?_; rintro _ _ ⟨rfl, rfl⟩
          refine JL.nil ?_
          refine J.inBlock ?_
          refine J.region ?_
          refine JL.pure rfl rfl (OpP.move rfl) ?_
          refine JL.pure rfl rfl (OpP.addI rfl rfl (by omega) (by omega)) ?_
          refine JL.pure rfl rfl (OpP.assign rfl) ?_
          refine JL.nil ?_
        rotate_left 1
        focus
          refine JL.skip rfl rfl ?_
          refine JL.skip rfl rfl ?_
          refine JL.skip rfl rfl ?_
          refine JL.pure rfl rfl (OpP.pickF rfl rfl) ?_
          refine JL.pure rfl rfl (OpP.pickF rfl rfl) ?_
          refine JL.pure rfl rfl (OpP.indexAddrN rfl rfl (by omega)) ?_
          refine JL.mem0 rfl (by apply OpM.store1 rfl rfl rfl; (case' hu => exact .head); (case' hs => exact spl_fc rfl (by omega)); done) ?_; rintro _ _ ⟨rfl, rfl⟩
          refine JL.nil ?_
          refine J.inBlock ?_
          refine J.region ?_
          refine JL.pure rfl rfl (OpP.move rfl) ?_
          refine JL.pure rfl rfl (OpP.addI rfl rfl (by omega) (by omega)) ?_
          refine JL.pure rfl rfl (OpP.assign rfl) ?_
          refine JL.nil ?_
        rotate_left 1
      rotate_left 2
    rotate_left 5
    all_goals
      refine back (i + 1) (by omega) (by omega) (by repeat (first | exact SubEnv.nil | refine SubEnv.cons (by first | rfl | exact congrArg (fun z => some (Value.int .i64 z)) (by omega) | (simp; done)) ?_)) (fun _ h => ?_)
      rw [upd_bit] at h
      · exact h
      · simp only [BitVec.getLsbD_or, BitVec.getLsbD_and]
        generalize x.getLsbD i = a at *
        generalize y.getLsbD i = b at *
        generalize z.getLsbD i = c at *
        clear back
        cases a <;> cases b <;> cases c <;> first | rfl | contradiction
  · have : i = 32 := by omega
    subst this
    rw [bit_full (D := fun _ => false) (x := x &&& y ||| z &&& (x ||| y)) fun _ _ => rfl]
    refine J.seq ?_
    refine J.seq ?_
    refine J.region ?_
    refine JL.pure rfl rfl (OpP.move rfl) ?_
    refine JL.decF rfl rfl (OpP.lss rfl rfl) (by omega) ?_
    refine JL.nil ?_
    refine J.condF rfl ?_
    refine J.exit rfl ?_
    refine J.seq ?_
    refine J.region ?_
    refine JL.read rfl rfl (OpR.loadN rfl (Cells.full .head) rfl) ?_
    refine JL.mem0 rfl (by apply OpM.storeN rfl rfl (fc_length _ _) (fc_one fun _ => rfl); (case' hu => exact (.tail .head)); (case' hs => exact spl_all (by rfl)); done) ?_; rintro _ _ ⟨rfl, rfl⟩
    refine JL.nil ?_
    refine J.retC rfl rfl (by apply Cells.full; (with_reducible repeat (first | exact .head | apply Has.tail))) (by first | (rw [List.length_append, hdC_len (by first | assumption | exact shaB_length _ _ | solve_by_elim)]; rfl) | exact hdC_len (by first | assumption | exact shaB_length _ _ | solve_by_elim) | (rw [bcells_length]; first | assumption | exact shaB_length _ _ | solve_by_elim) | exact fc_length _ _ | exact fB_length _ _ | rfl) ?_
    exact ⟨_, ⟨rfl, rfl⟩, fun _ h => h.tail.tail.tail.tail.tail⟩
end Go.Proofs.F

-- seat f
namespace Go.Proofs.F
open Go Go.Gp Go.RowKit

def digV (c : Nat) : Nat := if c ≤ 57 then c - 48 else c - 87
def IsHex (c : Nat) : Prop := 48 ≤ c ∧ c ≤ 57 ∨ 97 ≤ c ∧ c ≤ 102
theorem Digit_ok {w0 : World} {F : List HProp} {c : Nat} (hc : IsHex c) :
    FnO Tryd.prog w0 67 [.int .u8 (c : Nat)] F (fun v l' => v = .int .i64 (digV c : Nat) ∧ l' = F) := by
  refine FnO.intro (n := 12) Tryd.func67 rfl rfl rfl ?_
  unfold IsHex at hc
  by_cases h : c ≤ 57
  · refine J.seq ?_
    refine J.region ?_
    refine JL.pure rfl rfl (OpP.assign rfl) ?_
    refine JL.nil ?_
    refine J.seq ?_
    refine J.seq ?_
    refine J.region ?_
    refine JL.pure rfl rfl (OpP.move rfl) ?_
    refine JL.decT rfl rfl (OpP.leq rfl rfl) (by omega) ?_
    refine JL.nil ?_
    refine J.condT rfl ?_
    refine J.seq ?_
    refine J.region ?_
    refine JL.pure rfl rfl (OpP.move rfl) ?_
    refine JL.pure rfl rfl (OpP.subK rfl rfl (by simp [IntKind.min, IntKind.max, IntKind.signed, IntKind.bits] <;> omega) (by simp [IntKind.min, IntKind.max, IntKind.signed, IntKind.bits] <;> omega)) ?_
    refine JL.pure rfl rfl (OpP.convI64 rfl (by omega) (by omega)) ?_
    refine JL.pure rfl rfl (OpP.assign rfl) ?_
    refine JL.nil ?_
    refine J.ret1 rfl rfl ?_
    rw [digV, if_pos h]
    exact ⟨by congr 1; omega, rfl⟩
  · refine J.seq ?_
    refine J.region ?_
    refine JL.pure rfl rfl (OpP.assign rfl) ?_
    refine JL.nil ?_
    refine J.seq ?_
    refine J.seq ?_
    refine J.region ?_
    refine JL.pure rfl rfl (OpP.move rfl) ?_
    refine JL.decF rfl rfl (OpP.leq rfl rfl) (by omega) ?_
    refine JL.nil ?_
    refine J.condF rfl ?_
    refine J.skip ?_
    refine J.seq ?_
    refine J.region ?_
    refine JL.pure rfl rfl (OpP.move rfl) ?_
    refine JL.pure rfl rfl (OpP.subK rfl rfl (by simp [IntKind.min, IntKind.max, IntKind.signed, IntKind.bits] <;> omega) (by simp [IntKind.min, IntKind.max, IntKind.signed, IntKind.bits] <;> omega)) ?_
    refine JL.pure rfl rfl (OpP.convI64 rfl (by omega) (by omega)) ?_
    refine JL.pure rfl rfl (OpP.addI rfl rfl (by omega) (by omega)) ?_
    refine JL.pure rfl rfl (OpP.assign rfl) ?_
    refine JL.nil ?_
    refine J.ret1 rfl rfl ?_
    rw [digV, if_neg h]
    exact ⟨by congr 1; omega, rfl⟩
theorem hex_bit (x : BitVec 32) {i k d : Nat} (hk : k < 4) (hd : d = x.toNat / 16 ^ i % 16 / 2 ^ k) : x.getLsbD (4 * i + k) = decide (d % 2 = 1) := by
  subst hd
  rw [BitVec.getLsbD, Nat.testBit_eq_decide_div_mod_eq, Nat.pow_add, Nat.pow_mul, ← Nat.div_div_eq_div_mul]
  generalize x.toNat / (2 ^ 4) ^ i = y
  have : k = 0 ∨ k = 1 ∨ k = 2 ∨ k = 3 := by omega
  rcases this with rfl | rfl | rfl | rfl <;> congr 1 <;> apply propext <;> constructor <;> intro h <;> omega
theorem Hex_ok {w0 : World} {F : List HProp} {s : ByteArray} {n : Nat} {x : BitVec 32} (hn : n < 64) (hs : ∀ i, i < 8 → ∃ c : UInt8, s[8 * n + 7 - i]? = some c ∧ IsHex c.toNat ∧ digV c.toNat = x.toNat / 16 ^ i % 16) :
    FnO Tryd.prog w0 61 [.string s, .int .i64 (n : Nat)] F (fun v l' => v = .agg (fc 32 (bitV x)).toArray ∧ l' = F) := by
  refine FnO.weak ?_
  refine FnO.intro (n := 36) Tryd.func61 rfl rfl rfl ?_
  refine J.seq ?_
  refine J.region ?_
  refine JL.mem rfl rfl OpM.alloc ?_; rintro _ _ ⟨b4, rfl, rfl⟩
  refine JL.nil ?_
  refine J.seq ?_
  refine J.region ?_
  refine JL.mem rfl rfl OpM.alloc ?_; rintro _ _ ⟨b5, rfl, rfl⟩
  refine JL.nil ?_
  refine J.seq ?_
  refine J.seq ?_
  refine J.region ?_
  refine JL.pure rfl rfl (OpP.assign rfl) ?_
  refine JL.nil ?_
  refine J.block ?_
  refine J.loopI (fun i : Nat => 8 - i) (fun i => i ≤ 8) (fun i => [(6, .int .i64 (i : Nat)), (0, .string s), (1, .int .i64 (n : Nat)), (4, .pointer (some ⟨b4, 0, none⟩)), (5, .pointer (some ⟨b5, 0, none⟩))])
    (fun i => row b5 110 (fc 32 fun j => .bool (if j < 4 * i then x.getLsbD j else false)) :: row b4 110 (List.replicate 32 (.bool false)) :: F) 0 (Nat.zero_le _) (by repeat (first | exact SubEnv.nil | refine SubEnv.cons (by first | rfl | exact congrArg (fun z => some (Value.int .i64 z)) (by omega) | (simp; done)) ?_)) (fun _ h => by dsimp only; rw [Nat.mul_zero, ← bit_zero (D := fun _ => false) (fun _ => rfl)]; exact h) (fun i hi back => ?_)
  dsimp only at hi back ⊢
  by_cases hlt : i < 8
  · obtain ⟨c, hc, hx, hd⟩ := hs i hlt
    have hc' : s[((8 : Int) * (n : Int) + 7 - (i : Int)).toNat]? = some c := by rw [show ((8 : Int) * (n : Int) + 7 - (i : Int)).toNat = 8 * n + 7 - i by omega]; exact hc
    refine J.seq ?_
    refine J.seq ?_
    refine J.region ?_
    refine JL.pure rfl rfl (OpP.move rfl) ?_
    refine JL.decT rfl rfl (OpP.lss rfl rfl) (by omega) ?_
    refine JL.nil ?_
    refine J.condT rfl ?_
    refine J.skip ?_
    refine J.seq ?_
    refine J.block ?_
    refine J.seq ?_
    refine J.region ?_
    refine JL.pure rfl rfl (OpP.move rfl) ?_
    refine JL.pure rfl rfl (OpP.move rfl) ?_
    refine JL.pure rfl rfl (OpP.mulI rfl rfl (by omega) (by omega)) ?_
    refine JL.pure rfl rfl (OpP.addI rfl rfl (by omega) (by omega)) ?_
    refine JL.pure rfl rfl (OpP.move rfl) ?_
    refine JL.pure rfl rfl (OpP.subI rfl rfl (by omega) (by omega)) ?_
    refine JL.pure rfl rfl (OpP.indexStr rfl rfl (by omega) (by assumption)) ?_
    refine JL.step rfl rfl (OpW.call (first := []) (captured := []) inferInstance rfl rfl (Digit_ok hx)) ?_; rintro r20 _ ⟨rfl, rfl⟩
    refine JL.pure rfl rfl (OpP.assign rfl) ?_
    refine JL.nil ?_
    refine J.seq ?_
    refine J.region ?_
    refine JL.pure rfl rfl (OpP.assign rfl) ?_
    refine JL.nil ?_
    refine J.block ?_
    rw [hd]
    refine J.loopI (fun k : Nat => 4 - k) (fun k => k ≤ 4) (fun k => [(8, .int .i64 (k : Nat)), (7, .int .i64 (x.toNat / 16 ^ i % 16 / 2 ^ k : Nat)), (6, .int .i64 (i : Nat)), (0, .string s), (1, .int .i64 (n : Nat)), (4, .pointer (some ⟨b4, 0, none⟩)), (5, .pointer (some ⟨b5, 0, none⟩))])
      (fun k => row b5 110 (fc 32 fun j => .bool (if j < 4 * i + k then x.getLsbD j else false)) :: row b4 110 (List.replicate 32 (.bool false)) :: F) 0 (Nat.zero_le _) (by rw [Nat.pow_zero, Nat.div_one]; exact (by repeat (first | exact SubEnv.nil | refine SubEnv.cons (by first | rfl | exact congrArg (fun z => some (Value.int .i64 z)) (by omega) | (simp; done)) ?_))) (fun _ h => h) (fun k hk back2 => ?_)
    dsimp only at hk back2 ⊢
    by_cases hkt : k < 4
    · have hb := hex_bit x (i := i) hkt rfl
      have hdn : x.toNat / 16 ^ i % 16 / 2 ^ (k + 1) = x.toNat / 16 ^ i % 16 / 2 ^ k / 2 := by rw [Nat.pow_succ, Nat.div_div_eq_div_mul]
      have hlt16 : x.toNat / 16 ^ i % 16 / 2 ^ k < 16 := Nat.lt_of_le_of_lt (Nat.div_le_self _ _) (Nat.mod_lt _ (by decide))
      generalize x.toNat / 16 ^ i % 16 / 2 ^ k = d at hb hdn hlt16 ⊢
      refine J.seq ?_
      refine J.seq ?_
      refine J.region ?_
      refine JL.pure rfl rfl (OpP.move rfl) ?_
      refine JL.decT rfl rfl (OpP.lss rfl rfl) (by omega) ?_
      refine JL.nil ?_
      refine J.condT rfl ?_
      refine J.skip ?_
      refine J.seq ?_
      refine J.block ?_
      refine J.seq ?_
      refine J.region ?_
      refine JL.pure rfl rfl (OpP.move rfl) ?_
      refine JL.pure rfl rfl (OpP.mulI rfl rfl (by omega) (by omega)) ?_
      refine JL.pure rfl rfl (OpP.move rfl) ?_
      refine JL.pure rfl rfl (OpP.addI rfl rfl (by omega) (by omega)) ?_
      refine JL.pure rfl rfl (OpP.move rfl) ?_
      refine JL.pure rfl rfl (OpP.remI rfl rfl (by first | omega | exact Int.natCast_nonneg _) (by omega)) ?_
      refine JL.dec rfl rfl (OpP.eql rfl rfl) (fun h31 => ?_) (fun h31 => ?_)
      focus
        refine JL.pure rfl rfl (OpP.indexAddrF rfl rfl (by omega) (by omega)) ?_
        refine JL.mem0 rfl (by apply OpM.store1 rfl rfl rfl; (case' hu => exact .head); (case' hs => exact spl_fc rfl (by omega)); done) ?_; rintro _ _ ⟨rfl, rfl⟩
        refine JL.nil ?_
        refine J.region ?_
        refine JL.pure rfl rfl (OpP.move rfl) ?_
        refine JL.pure rfl rfl (OpP.quoI rfl rfl (by omega) (by omega) (by first | decide | (simp only [IntKind.max]; omega) | (simp [IntKind.max, IntKind.signed, IntKind.bits]; omega))) ?_
        refine JL.pure rfl rfl (OpP.assign rfl) ?_
        refine JL.nil ?_
        refine J.inBlock ?_
        refine J.region ?_
        refine JL.pure rfl rfl (OpP.move rfl) ?_
        refine JL.pure rfl rfl (OpP.addI rfl rfl (by omega) (by omega)) ?_
        refine JL.pure rfl rfl (OpP.assign rfl) ?_
        refine JL.nil ?_
      rotate_left 1
      focus
        refine JL.pure rfl rfl (OpP.indexAddrF rfl rfl (by omega) (by omega)) ?_
        refine JL.mem0 rfl (by apply OpM.store1 rfl rfl rfl; (case' hu => exact .head); (case' hs => exact spl_fc rfl (by omega)); done) ?_; rintro _ _ ⟨rfl, rfl⟩
        refine JL.nil ?_
        refine J.region ?_
        refine JL.pure rfl rfl (OpP.move rfl) ?_
        refine JL.pure rfl rfl (OpP.quoI rfl rfl (by omega) (by omega) (by first | decide | (simp only [IntKind.max]; omega) | (simp [IntKind.max, IntKind.signed, IntKind.bits]; omega))) ?_
        refine JL.pure rfl rfl (OpP.assign rfl) ?_
        refine JL.nil ?_
        refine J.inBlock ?_
        refine J.region ?_
        refine JL.pure rfl rfl (OpP.move rfl) ?_
        refine JL.pure rfl rfl (OpP.addI rfl rfl (by omega) (by omega)) ?_
        refine JL.pure rfl rfl (OpP.assign rfl) ?_
        refine JL.nil ?_
      rotate_left 1
      all_goals
        refine back2 (k + 1) (by omega) (by omega) (by rw [hdn]; exact (by repeat (first | exact SubEnv.nil | refine SubEnv.cons (by first | rfl | exact congrArg (fun z => some (Value.int .i64 z)) (by omega) | (simp; done)) ?_))) (fun _ h => ?_)
        rw [show ((4 : Int) * (i : Int) + (k : Int)).toNat = 4 * i + k by omega, upd_bit] at h
        · exact h
        · rw [hb]
          first | exact (decide_eq_true (by omega)).symm | exact (decide_eq_false (by omega)).symm
    · have : k = 4 := by omega
      subst this
      refine J.seq ?_
      refine J.seq ?_
      refine J.region ?_
      refine JL.pure rfl rfl (OpP.move rfl) ?_
      refine JL.decF rfl rfl (OpP.lss rfl rfl) (by omega) ?_
      refine JL.nil ?_
      refine J.condF rfl ?_
      refine J.exit rfl ?_
      refine J.inBlock ?_
      refine J.region ?_
      refine JL.pure rfl rfl (OpP.move rfl) ?_
      refine JL.pure rfl rfl (OpP.addI rfl rfl (by omega) (by omega)) ?_
      refine JL.pure rfl rfl (OpP.assign rfl) ?_
      refine JL.nil ?_
      exact back (i + 1) (by omega) (by omega) (by repeat (first | exact SubEnv.nil | refine SubEnv.cons (by first | rfl | exact congrArg (fun z => some (Value.int .i64 z)) (by omega) | (simp; done)) ?_)) (fun _ h => h)
  · have : i = 8 := by omega
    subst this
    rw [bit_full (D := fun _ => false) (x := x) fun _ _ => rfl]
    refine J.seq ?_
    refine J.seq ?_
    refine J.region ?_
    refine JL.pure rfl rfl (OpP.move rfl) ?_
    refine JL.decF rfl rfl (OpP.lss rfl rfl) (by omega) ?_
    refine JL.nil ?_
    refine J.condF rfl ?_
    refine J.exit rfl ?_
    refine J.seq ?_
    refine J.region ?_
    refine JL.read rfl rfl (OpR.loadN rfl (Cells.full .head) rfl) ?_
    refine JL.mem0 rfl (by apply OpM.storeN rfl rfl (fc_length _ _) (fc_one fun _ => rfl); (case' hu => exact (.tail .head)); (case' hs => exact spl_all (by rfl)); done) ?_; rintro _ _ ⟨rfl, rfl⟩
    refine JL.nil ?_
    refine J.retC rfl rfl (by apply Cells.full; (with_reducible repeat (first | exact .head | apply Has.tail))) (by first | (rw [List.length_append, hdC_len (by first | assumption | exact shaB_length _ _ | solve_by_elim)]; rfl) | exact hdC_len (by first | assumption | exact shaB_length _ _ | solve_by_elim) | (rw [bcells_length]; first | assumption | exact shaB_length _ _ | solve_by_elim) | exact fc_length _ _ | exact fB_length _ _ | rfl) ?_
    exact ⟨_, ⟨rfl, rfl⟩, fun _ h => h.tail.tail⟩
end Go.Proofs.F

-- seat f
namespace Go.Proofs.F
open Go Go.Gp Go.RowKit

theorem Row_ok {w0 : World} {F : List HProp} {bs : List UInt8} {v : Value} (hbs : bs.length = 64) (hr : RdO w0 F v 64 (bcells bs)) :
    FnO Tryd.prog w0 68 [v] F (fun r l' => ∃ a c, r = .slice a 64 c ∧ l' = own 110 32 r 64 (fB 64 (Wd (loadW bs 64))) :: F) := by
  refine FnO.rd hr fun hr => ?_
  obtain ⟨va, vc, rfl⟩ := hr.lit
  refine FnO.weak ?_
  refine FnO.intro (n := 88) Tryd.func68 rfl rfl rfl ?_
  refine J.seq ?_
  refine J.region ?_
  refine JL.pure rfl rfl (OpP.assign rfl) ?_
  refine JL.nil ?_
  refine J.seq ?_
  refine J.region ?_
  refine JL.pure rfl rfl (OpP.assign rfl) ?_
  refine JL.nil ?_
  refine J.seq ?_
  refine J.seq ?_
  refine J.region ?_
  refine JL.pure rfl rfl (OpP.assign rfl) ?_
  refine JL.nil ?_
  refine J.block ?_
  refine J.loopI (fun x : Nat × Value => 16 - x.1) (fun x => x.1 ≤ 16) (fun x => [(4, .int .i64 (x.1 : Nat)), (3, x.2), (0, .slice va 64 vc)])
    (fun x => own 110 32 x.2 x.1 (fB x.1 (loadW bs 64)) :: F) (0, .slice none 0 0) (Nat.zero_le _) (by repeat (first | exact SubEnv.nil | refine SubEnv.cons (by first | rfl | exact congrArg (fun z => some (Value.int .i64 z)) (by omega) | (simp; done)) ?_)) (fun _ h => Own.own_nil h) (fun ⟨i, sv⟩ hi back => ?_)
  dsimp only at hi back ⊢
  by_cases hlt : i < 16
  · refine J.lit .head fun asv csv esv => ?_; subst esv
    refine J.seq ?_
    refine J.seq ?_
    refine J.region ?_
    refine JL.pure rfl rfl (OpP.move rfl) ?_
    refine JL.decT rfl rfl (OpP.lss rfl rfl) (by omega) ?_
    refine JL.nil ?_
    refine J.condT rfl ?_
    refine J.skip ?_
    refine J.seq ?_
    refine J.block ?_
    refine J.seq ?_
    refine J.region ?_
    refine JL.mem rfl rfl OpM.alloc ?_; rintro _ _ ⟨b5, rfl, rfl⟩
    refine JL.nil ?_
    refine J.seq ?_
    refine J.seq ?_
    refine J.region ?_
    refine JL.pure rfl rfl (OpP.assign rfl) ?_
    refine JL.nil ?_
    refine J.block ?_
    refine J.loopI (fun k : Nat => 32 - k) (fun k => k ≤ 32) (fun k => [(6, .int .i64 (k : Nat)), (4, .int .i64 (i : Nat)), (3, .slice asv i csv), (0, .slice va 64 vc), (5, .pointer (some ⟨b5, 0, none⟩))])
      (fun k => row b5 110 (fc 32 fun j => .bool (if j < k then (loadW bs 64 i).getLsbD j else false)) :: own 110 32 (.slice asv i csv) i (fB i (loadW bs 64)) :: F) 0 (Nat.zero_le _) (by repeat (first | exact SubEnv.nil | refine SubEnv.cons (by first | rfl | exact congrArg (fun z => some (Value.int .i64 z)) (by omega) | (simp; done)) ?_)) (fun _ h => by dsimp only; rw [← bit_zero (D := fun _ => false) (fun _ => rfl)]; exact h) (fun k hk back2 => ?_)
    dsimp only at hk back2 ⊢
    by_cases hkt : k < 32
    · have hb := loadW_bit bs hlt hkt
      have hbi : (bcells bs)[4 * i + 3 - k / 8]? = some (u8c (bs.getD (4 * i + 3 - k / 8) 0)) := by
        simp [bcells, List.getD, List.getElem?_eq_getElem (show 4 * i + 3 - k / 8 < bs.length by omega)]
      generalize hget : bs.getD (4 * i + 3 - k / 8) 0 = c at hbi
      refine J.seq ?_
      refine J.seq ?_
      refine J.region ?_
      refine JL.pure rfl rfl (OpP.move rfl) ?_
      refine JL.decT rfl rfl (OpP.lss rfl rfl) (by omega) ?_
      refine JL.nil ?_
      refine J.condT rfl ?_
      refine J.skip ?_
      refine J.seq ?_
      refine J.block ?_
      refine J.region ?_
      refine JL.pure rfl rfl (OpP.move rfl) ?_
      refine JL.pure rfl rfl (OpP.move rfl) ?_
      refine JL.pure rfl rfl (OpP.move rfl) ?_
      refine JL.pure rfl rfl (OpP.mulI rfl rfl (by omega) (by omega)) ?_
      refine JL.pure rfl rfl (OpP.addI rfl rfl (by omega) (by omega)) ?_
      refine JL.pure rfl rfl (OpP.move rfl) ?_
      refine JL.pure rfl rfl (OpP.quoI rfl rfl (by omega) (by omega) (by first | decide | (simp only [IntKind.max]; omega) | (simp [IntKind.max, IntKind.signed, IntKind.bits]; omega))) ?_
      refine JL.pure rfl rfl (OpP.subI rfl rfl (by omega) (by omega)) ?_
      obtain ⟨gva, pva, qva, eva, kva, cva⟩ := hr.pos (by omega); cases eva
      refine JL.pure rfl rfl (OpP.indexAddr rfl rfl (by omega) (by omega)) ?_
      refine JL.read rfl rfl (OpR.load1 rfl (by apply Cells.cell cva (fun _ h => Own.pick (pre := [_, _]) [] rfl h); (case' hv => assumption); (case' ho => omega); done)) ?_
      refine JL.pure rfl rfl (OpP.move rfl) ?_
      refine JL.pure rfl rfl (OpP.remI rfl rfl (by first | omega | exact Int.natCast_nonneg _) (by omega)) ?_
      refine JL.pure rfl rfl (OpP.convI rfl (by simp [IntKind.min, IntKind.max, IntKind.signed, IntKind.bits] <;> omega) (by simp [IntKind.min, IntKind.max, IntKind.signed, IntKind.bits] <;> omega)) ?_
      refine JL.pure rfl rfl (OpP.shrN rfl rfl (by omega) (by first | decide | (simp only [IntKind.bits]; omega))) ?_
      refine JL.pure rfl rfl (OpP.remI rfl rfl (by first | omega | exact Int.natCast_nonneg _) (by omega)) ?_
      refine JL.dec rfl rfl (OpP.eql rfl rfl) (fun h35 => ?_) (fun h35 => ?_)
      focus
        refine JL.pure rfl rfl (OpP.indexAddrN rfl rfl (by omega)) ?_
        refine JL.mem0 rfl (by apply OpM.store1 rfl rfl rfl; (case' hu => exact .head); (case' hs => exact spl_fc rfl (by omega)); done) ?_; rintro _ _ ⟨rfl, rfl⟩
        refine JL.nil ?_
        refine J.inBlock ?_
        refine J.region ?_
        refine JL.pure rfl rfl (OpP.move rfl) ?_
        refine JL.pure rfl rfl (OpP.addI rfl rfl (by omega) (by omega)) ?_
        refine JL.pure rfl rfl (OpP.assign rfl) ?_
        refine JL.nil ?_
      rotate_left 1
      focus
        refine JL.pure rfl rfl (OpP.indexAddrN rfl rfl (by omega)) ?_
        refine JL.mem0 rfl (by apply OpM.store1 rfl rfl rfl; (case' hu => exact .head); (case' hs => exact spl_fc rfl (by omega)); done) ?_; rintro _ _ ⟨rfl, rfl⟩
        refine JL.nil ?_
        refine J.inBlock ?_
        refine J.region ?_
        refine JL.pure rfl rfl (OpP.move rfl) ?_
        refine JL.pure rfl rfl (OpP.addI rfl rfl (by omega) (by omega)) ?_
        refine JL.pure rfl rfl (OpP.assign rfl) ?_
        refine JL.nil ?_
      rotate_left 1
      all_goals
        rw [show ((k : Int) % 8).toNat = k % 8 by omega] at h35
        refine back2 (k + 1) (by omega) (by omega) (by repeat (first | exact SubEnv.nil | refine SubEnv.cons (by first | rfl | exact congrArg (fun z => some (Value.int .i64 z)) (by omega) | (simp; done)) ?_)) (fun _ h => ?_)
        rw [upd_bit] at h
        · exact h
        · rw [loadW_bit bs hlt hkt, hget]
          refine Eq.trans ?_ Nat.testBit_eq_decide_div_mod_eq.symm
          show _ = decide (c.toNat / 2 ^ (k % 8) % 2 = 1)
          generalize c.toNat / 2 ^ (k % 8) = q at h35 ⊢
          first | exact (decide_eq_true (by omega)).symm | exact (decide_eq_false (by omega)).symm
    · have : k = 32 := by omega
      subst this
      rw [bit_full (D := fun _ => false) (x := loadW bs 64 i) fun _ _ => rfl]
      have hl : (fc 32 (bitV (loadW bs 64 i))).length = 1 * 32 := fc_length _ _
      have ho1 : ∀ u ∈ fc 32 (bitV (loadW bs 64 i)), u.oneCell' = true := fc_one fun _ => rfl
      refine J.seq ?_
      refine J.seq ?_
      refine J.region ?_
      refine JL.pure rfl rfl (OpP.move rfl) ?_
      refine JL.decF rfl rfl (OpP.lss rfl rfl) (by omega) ?_
      refine JL.nil ?_
      refine J.condF rfl ?_
      refine J.exit rfl ?_
      refine J.region ?_
      refine JL.pure rfl rfl (OpP.move rfl) ?_
      refine JL.read rfl rfl (OpR.loadN rfl (Cells.full .head) rfl) ?_
      refine JL.mem rfl rfl (OpM.buildSlice1 (by rfl) rfl (by exact fc_length _ _) (by rfl)) ?_; rintro _ _ ⟨b39, rfl, rfl⟩
      refine JL.f2 ?_; refine JL.mem rfl rfl (OpM.appendH rfl (.inl ⟨_, Sl.und inferInstance⟩) (by rfl) rfl rfl (RdO.src (RdO.ofRow (.tail .head) (by first | exact Nat.le_refl _ | decide | omega)) (by first | assumption | exact fc_length _ _ | (simp; done) | (simp; omega))) (by first | exact bcells_one _ | exact scells_one _ | exact icells_one _ | assumption | exact fc_one fun _ => rfl) (by simp only [maxLen]; omega) (by omega)) ?_; rintro _ _ ⟨⟨a40, c40, rfl⟩, rfl⟩
      refine JL.pure rfl rfl (OpP.assign rfl) ?_
      refine JL.nil ?_
      refine J.inBlock ?_
      refine J.region ?_
      refine JL.pure rfl rfl (OpP.move rfl) ?_
      refine JL.pure rfl rfl (OpP.addI rfl rfl (by omega) (by omega)) ?_
      refine JL.pure rfl rfl (OpP.assign rfl) ?_
      refine JL.nil ?_
      refine back (i + 1, .slice a40 (i + 1) c40) (by dsimp only; omega) (by dsimp only; omega) (by repeat (first | exact SubEnv.nil | refine SubEnv.cons (by first | rfl | exact congrArg (fun z => some (Value.int .i64 z)) (by omega) | (simp; done)) ?_)) (fun _ h => ?_)
      dsimp only
      rw [fB_succ]
      exact Own.pick (pre := [_, _, _]) [0] rfl h
  · have : i = 16 := by omega
    subst this
    have e : fB 16 (loadW bs 64) = fB 16 (Wd (loadW bs 64)) := fB_congr fun j hj => (Wd_lo _ hj).symm
    rw [e]
    generalize loadW bs 64 = S
    refine J.lit .head fun asv csv esv => ?_; subst esv
    refine J.seq ?_
    refine J.seq ?_
    refine J.region ?_
    refine JL.pure rfl rfl (OpP.move rfl) ?_
    refine JL.decF rfl rfl (OpP.lss rfl rfl) (by omega) ?_
    refine JL.nil ?_
    refine J.condF rfl ?_
    refine J.exit rfl ?_
    refine J.seq ?_
    refine J.seq ?_
    refine J.region ?_
    refine JL.pure rfl rfl (OpP.assign rfl) ?_
    refine JL.nil ?_
    refine J.block ?_
    refine J.loopI (fun x : Nat × Value => 64 - x.1) (fun x => 16 ≤ x.1 ∧ x.1 ≤ 64) (fun x => [(7, .int .i64 (x.1 : Nat)), (3, x.2)])
      (fun x => own 110 32 x.2 x.1 (fB x.1 (Wd S)) :: F) (16, .slice asv 16 csv) ⟨Nat.le_refl 16, (by decide : 16 ≤ 64)⟩ (by repeat (first | exact SubEnv.nil | refine SubEnv.cons (by first | rfl | exact congrArg (fun z => some (Value.int .i64 z)) (by omega) | (simp; done)) ?_)) (fun _ h => h) (fun ⟨i, sv⟩ hi back => ?_)
    dsimp only at hi back ⊢
    by_cases hlt : i < 64
    · have hw := Wd_hi S hi.1
      refine J.lit .head fun asv csv esv => ?_; subst esv
      refine J.seq ?_
      refine J.seq ?_
      refine J.region ?_
      refine JL.pure rfl rfl (OpP.move rfl) ?_
      refine JL.decT rfl rfl (OpP.lss rfl rfl) (by omega) ?_
      refine JL.nil ?_
      refine J.condT rfl ?_
      refine J.skip ?_
      refine J.seq ?_
      refine J.block ?_
      refine J.ownSome .head (by omega) fun gs ps es ks => ?_
      subst es
      refine J.seq ?_
      refine J.cut (σ := Nat × Nat) (fun _ => True) (fun s => [(7, .int .i64 (i : Nat)), (3, .slice (some ⟨gs, ps, none⟩) i csv), (8, .pointer (some ⟨s.1, 0, none⟩)), (9, .pointer (some ⟨s.2, 0, none⟩))])
        (fun s => row s.1 110 (fc 32 (bitV (Wd S (i - 15)))) :: row s.2 110 (fc 32 (bitV (Wd S (i - 2)))) :: own 110 32 (.slice (some ⟨gs, ps, none⟩) i csv) i (fB i (Wd S)) :: F) (fun ⟨b8, b9⟩ _ => ?_) (fun k' go => ?_)
      · dsimp only
        refine J.seq ?_
        refine J.cut (σ := Nat) (fun _ => True) (fun b10 => [(7, .int .i64 (i : Nat)), (3, .slice (some ⟨gs, ps, none⟩) i csv), (9, .pointer (some ⟨b9, 0, none⟩)), (10, .pointer (some ⟨b10, 0, none⟩))])
          (fun b10 => row b10 110 (fc 32 (bitV (half2 (Wd S (i - 15)) 7 18 3))) :: row b9 110 (fc 32 (bitV (Wd S (i - 2)))) :: own 110 32 (.slice (some ⟨gs, ps, none⟩) i csv) i (fB i (Wd S)) :: F) (fun b10 _ => ?_) (fun k' go => ?_)
        · refine J.seq ?_
          refine J.cut (σ := Nat) (fun _ => True) (fun b11 => [(7, .int .i64 (i : Nat)), (3, .slice (some ⟨gs, ps, none⟩) i csv), (10, .pointer (some ⟨b10, 0, none⟩)), (11, .pointer (some ⟨b11, 0, none⟩))])
            (fun b11 => row b11 110 (fc 32 (bitV (half2 (Wd S (i - 2)) 17 19 10))) :: row b10 110 (fc 32 (bitV (half2 (Wd S (i - 15)) 7 18 3))) :: own 110 32 (.slice (some ⟨gs, ps, none⟩) i csv) i (fB i (Wd S)) :: F) (fun b11 _ => ?_) (fun k' go => ?_)
          · refine J.regionD [5, 6, 12, 14] (by kernel_rfl) ?_
            refine DL.pure (i := 0) (by kernel_rfl) (by kernel_rfl) rfl rfl rfl (OpP.move rfl) ?_
            refine DL.pure (i := 1) (by kernel_rfl) (by kernel_rfl) rfl rfl rfl (OpP.move rfl) ?_
            refine DL.pure (i := 2) (by kernel_rfl) (by kernel_rfl) rfl rfl rfl (OpP.move rfl) ?_
            refine DL.pure (i := 3) (by kernel_rfl) (by kernel_rfl) rfl rfl rfl (OpP.subI rfl rfl (by omega) (by omega)) ?_
            refine DL.pure (i := 4) (by kernel_rfl) (by kernel_rfl) rfl rfl rfl (OpP.indexAddr rfl rfl (by omega) (by omega)) ?_
            refine DL.read (i := 5) (by kernel_rfl) (by kernel_rfl) rfl rfl rfl (fun _ h => h) (OpR.loadN rfl (Cells.fBo (Cells.own (.tail (.tail .head))) (by omega)) (fc_length _ _)) ?_
            refine DL.read (i := 6) (by kernel_rfl) (by kernel_rfl) rfl rfl rfl (fun _ h => h) (OpR.loadN rfl (Cells.full (.tail .head)) rfl) ?_
            refine DL.pure (i := 8) (by kernel_rfl) (by kernel_rfl) rfl rfl rfl (OpP.move rfl) ?_
            refine DL.pure (i := 9) (by kernel_rfl) (by kernel_rfl) rfl rfl rfl (OpP.move rfl) ?_
            refine DL.pure (i := 10) (by kernel_rfl) (by kernel_rfl) rfl rfl rfl (OpP.subI rfl rfl (by omega) (by omega)) ?_
            refine DL.pure (i := 11) (by kernel_rfl) (by kernel_rfl) rfl rfl rfl (OpP.indexAddr rfl rfl (by omega) (by omega)) ?_
            refine DL.read (i := 12) (by kernel_rfl) (by kernel_rfl) rfl rfl rfl (fun _ h => h) (OpR.loadN rfl (Cells.fBo (Cells.own (.tail (.tail .head))) (by omega)) (fc_length _ _)) ?_
            refine DL.read (i := 14) (by kernel_rfl) (by kernel_rfl) rfl rfl rfl (fun _ h => h) (OpR.loadN rfl (Cells.full .head) rfl) ?_
            refine DL.only (i := 7) (by kernel_rfl) ?_
            refine DL1.stepK rfl rfl rfl (by exact OpW.call (first := []) (captured := []) inferInstance rfl rfl Plus_ok) (by rintro _ _ ⟨rfl, rfl⟩ _ h; exact Own.pick (pre := [_, _, _]) [0, 1, 2] rfl h) ?_; rintro r76 _ ⟨rfl, rfl⟩
            refine DL.only (i := 13) (by kernel_rfl) ?_
            refine DL1.stepK rfl rfl rfl (by exact OpW.call (first := []) (captured := []) inferInstance rfl rfl Plus_ok) (by rintro _ _ ⟨rfl, rfl⟩ _ h; exact Own.pick (pre := [_, _, _]) [0, 1, 2] rfl h) ?_; rintro r82 _ ⟨rfl, rfl⟩
            refine DL.only (i := 15) (by kernel_rfl) ?_
            refine DL1.stepF rfl rfl rfl (by kernel_rfl) (by exact OpW.call (first := []) (captured := []) inferInstance rfl rfl Plus_ok) ?_; rintro r84 _ ⟨rfl, rfl⟩
            refine DL.only (i := 16) (by kernel_rfl) ?_
            refine DL1.stepF rfl rfl rfl (by kernel_rfl) (OpM.w (OpM.buildSlice1 (by rfl) rfl (by exact fc_length _ _) (by rfl))) ?_; rintro _ _ ⟨b85, rfl, rfl⟩
            refine DL.only (i := 17) (by kernel_rfl) ?_
            refine DL1.f3 ?_; refine DL1.stepF rfl rfl rfl (by kernel_rfl) (OpM.w (OpM.appendH rfl (.inl ⟨_, Sl.und inferInstance⟩) (by rfl) rfl rfl (RdO.src (RdO.ofRow (.tail .head) (by first | exact Nat.le_refl _ | decide | omega)) (by first | assumption | exact fc_length _ _ | (simp; done) | (simp; omega))) (by first | exact bcells_one _ | exact scells_one _ | exact icells_one _ | assumption | exact fc_one fun _ => rfl) (by simp only [maxLen]; omega) (by omega))) ?_; rintro _ _ ⟨⟨a86, c86, rfl⟩, rfl⟩
            refine DL.pure (i := 18) (by kernel_rfl) (by kernel_rfl) rfl rfl rfl (OpP.assign rfl) ?_
            refine DL.done (by kernel_rfl) ?_
            refine J.inBlock ?_
            refine J.region ?_
            refine JL.pure rfl rfl (OpP.move rfl) ?_
            refine JL.pure rfl rfl (OpP.addI rfl rfl (by omega) (by omega)) ?_
            refine JL.pure rfl rfl (OpP.assign rfl) ?_
            refine JL.nil ?_
            refine back (i + 1, .slice a86 (i + 1) c86) ⟨by dsimp only; omega, by dsimp only; omega⟩ (by dsimp only; omega) (by repeat (first | exact SubEnv.nil | refine SubEnv.cons (by first | rfl | exact congrArg (fun z => some (Value.int .i64 z)) (by omega) | (simp; done)) ?_)) (fun _ h => ?_)
            dsimp only
            rw [fB_succ, hw]
            rw [show ((i : Int) - 16).toNat = i - 16 by omega, show ((i : Int) - 7).toNat = i - 7 by omega] at h
            exact Own.pick (pre := [_, _, _, _]) [0] rfl h
          · refine J.regionD [0, 2, 4] (by kernel_rfl) ?_
            refine DL.read (i := 0) (by kernel_rfl) (by kernel_rfl) rfl rfl rfl (fun _ h => h) (OpR.loadN rfl (Cells.full (.tail .head)) rfl) ?_
            refine DL.read (i := 2) (by kernel_rfl) (by kernel_rfl) rfl rfl rfl (fun _ h => h) (OpR.loadN rfl (Cells.full (.tail .head)) rfl) ?_
            refine DL.read (i := 4) (by kernel_rfl) (by kernel_rfl) rfl rfl rfl (fun _ h => h) (OpR.loadN rfl (Cells.full (.tail .head)) rfl) ?_
            refine DL.two (i := 1) (j := 7) (by kernel_rfl) ?_ ?_
            focus
              refine DL1.stepK rfl rfl rfl (by exact OpW.call (first := []) (captured := []) inferInstance rfl rfl (Right_ok (n := 17) (by decide) (by decide))) (by rintro _ _ ⟨rfl, rfl⟩ _ h; exact Own.pick (pre := [_, _, _]) [0, 1, 2] rfl h) ?_; rintro r63 _ ⟨rfl, rfl⟩
              refine DL.two (i := 3) (j := 7) (by kernel_rfl) ?_ ?_
              focus
                refine DL1.stepK rfl rfl rfl (by exact OpW.call (first := []) (captured := []) inferInstance rfl rfl (Right_ok (n := 19) (by decide) (by decide))) (by rintro _ _ ⟨rfl, rfl⟩ _ h; exact Own.pick (pre := [_, _, _]) [0, 1, 2] rfl h) ?_; rintro r65 _ ⟨rfl, rfl⟩
                refine DL.two (i := 5) (j := 7) (by kernel_rfl) ?_ ?_
                focus
                  refine DL1.stepF rfl rfl rfl (by kernel_rfl) (by exact OpW.call (first := []) (captured := []) inferInstance rfl rfl (Right_ok (n := 10) (by decide) (by decide))) ?_; rintro r67 _ ⟨rfl, rfl⟩
                  refine DL.two (i := 6) (j := 7) (by kernel_rfl) ?_ ?_
                  focus
                    refine DL1.stepF rfl rfl rfl (by kernel_rfl) (by exact OpW.call (first := []) (captured := []) inferInstance rfl rfl Odd_ok) ?_; rintro r68 _ ⟨rfl, rfl⟩
                    refine DL.only (i := 7) (by kernel_rfl) ?_
                    refine DL1.stepK rfl rfl rfl (OpM.w OpM.alloc) (by rintro _ _ ⟨b11, rfl, rfl⟩ _ h; exact Own.pick (pre := [_, _, _, _]) [1, 2, 3] rfl h) ?_; rintro _ _ ⟨b11, rfl, rfl⟩
                    refine DL.only (i := 8) (by kernel_rfl) ?_
                    refine DL1.stepF0 rfl rfl (by kernel_rfl) (OpM.w (by apply OpM.storeN rfl rfl (fc_length _ _) (fc_one fun _ => rfl); (case' hu => exact .head); (case' hs => exact spl_all (by rfl)); done)) ?_; rintro _ _ ⟨rfl, rfl⟩
                    refine DL.done (by kernel_rfl) ?_
                  rotate_left 1
                  focus
                    refine DL1.stepK rfl rfl rfl (OpM.w OpM.alloc) (by rintro _ _ ⟨b11, rfl, rfl⟩ _ h; exact Own.pick (pre := [_, _, _, _]) [1, 2, 3] rfl h) ?_; rintro _ _ ⟨b11, rfl, rfl⟩
                    refine DL.only (i := 6) (by kernel_rfl) ?_
                    refine DL1.stepF rfl rfl rfl (by kernel_rfl) (by exact OpW.call (first := []) (captured := []) inferInstance rfl rfl Odd_ok) ?_; rintro r68 _ ⟨rfl, rfl⟩
                    refine DL.only (i := 8) (by kernel_rfl) ?_
                    refine DL1.stepF0 rfl rfl (by kernel_rfl) (OpM.w (by apply OpM.storeN rfl rfl (fc_length _ _) (fc_one fun _ => rfl); (case' hu => exact .head); (case' hs => exact spl_all (by rfl)); done)) ?_; rintro _ _ ⟨rfl, rfl⟩
                    refine DL.done (by kernel_rfl) ?_
                  rotate_left 1
                rotate_left 2
                focus
                  refine DL1.stepK rfl rfl rfl (OpM.w OpM.alloc) (by rintro _ _ ⟨b11, rfl, rfl⟩ _ h; exact Own.pick (pre := [_, _, _, _]) [1, 2, 3] rfl h) ?_; rintro _ _ ⟨b11, rfl, rfl⟩
                  refine DL.only (i := 5) (by kernel_rfl) ?_
                  refine DL1.stepF rfl rfl rfl (by kernel_rfl) (by exact OpW.call (first := []) (captured := []) inferInstance rfl rfl (Right_ok (n := 10) (by decide) (by decide))) ?_; rintro r67 _ ⟨rfl, rfl⟩
                  refine DL.only (i := 6) (by kernel_rfl) ?_
                  refine DL1.stepF rfl rfl rfl (by kernel_rfl) (by exact OpW.call (first := []) (captured := []) inferInstance rfl rfl Odd_ok) ?_; rintro r68 _ ⟨rfl, rfl⟩
                  refine DL.only (i := 8) (by kernel_rfl) ?_
                  refine DL1.stepF0 rfl rfl (by kernel_rfl) (OpM.w (by apply OpM.storeN rfl rfl (fc_length _ _) (fc_one fun _ => rfl); (case' hu => exact .head); (case' hs => exact spl_all (by rfl)); done)) ?_; rintro _ _ ⟨rfl, rfl⟩
                  refine DL.done (by kernel_rfl) ?_
                rotate_left 1
              rotate_left 3
              focus
                refine DL1.stepK rfl rfl rfl (OpM.w OpM.alloc) (by rintro _ _ ⟨b11, rfl, rfl⟩ _ h; exact Own.pick (pre := [_, _, _, _]) [1, 2, 3] rfl h) ?_; rintro _ _ ⟨b11, rfl, rfl⟩
                refine DL.only (i := 3) (by kernel_rfl) ?_
                refine DL1.stepK rfl rfl rfl (by exact OpW.call (first := []) (captured := []) inferInstance rfl rfl (Right_ok (n := 19) (by decide) (by decide))) (by rintro _ _ ⟨rfl, rfl⟩ _ h; exact Own.pick (pre := [_, _, _, _]) [1, 2, 3] rfl h) ?_; rintro r65 _ ⟨rfl, rfl⟩
                refine DL.only (i := 5) (by kernel_rfl) ?_
                refine DL1.stepF rfl rfl rfl (by kernel_rfl) (by exact OpW.call (first := []) (captured := []) inferInstance rfl rfl (Right_ok (n := 10) (by decide) (by decide))) ?_; rintro r67 _ ⟨rfl, rfl⟩
                refine DL.only (i := 6) (by kernel_rfl) ?_
                refine DL1.stepF rfl rfl rfl (by kernel_rfl) (by exact OpW.call (first := []) (captured := []) inferInstance rfl rfl Odd_ok) ?_; rintro r68 _ ⟨rfl, rfl⟩
                refine DL.only (i := 8) (by kernel_rfl) ?_
                refine DL1.stepF0 rfl rfl (by kernel_rfl) (OpM.w (by apply OpM.storeN rfl rfl (fc_length _ _) (fc_one fun _ => rfl); (case' hu => exact .head); (case' hs => exact spl_all (by rfl)); done)) ?_; rintro _ _ ⟨rfl, rfl⟩
                refine DL.done (by kernel_rfl) ?_
              rotate_left 1
            rotate_left 4
            focus
              refine DL1.stepK rfl rfl rfl (OpM.w OpM.alloc) (by rintro _ _ ⟨b11, rfl, rfl⟩ _ h; exact Own.pick (pre := [_, _, _, _]) [1, 2, 3] rfl h) ?_; rintro _ _ ⟨b11, rfl, rfl⟩
              refine DL.only (i := 1) (by kernel_rfl) ?_
              refine DL1.stepK rfl rfl rfl (by exact OpW.call (first := []) (captured := []) inferInstance rfl rfl (Right_ok (n := 17) (by decide) (by decide))) (by rintro _ _ ⟨rfl, rfl⟩ _ h; exact Own.pick (pre := [_, _, _, _]) [1, 2, 3] rfl h) ?_; rintro r63 _ ⟨rfl, rfl⟩
              refine DL.only (i := 3) (by kernel_rfl) ?_
              refine DL1.stepK rfl rfl rfl (by exact OpW.call (first := []) (captured := []) inferInstance rfl rfl (Right_ok (n := 19) (by decide) (by decide))) (by rintro _ _ ⟨rfl, rfl⟩ _ h; exact Own.pick (pre := [_, _, _, _]) [1, 2, 3] rfl h) ?_; rintro r65 _ ⟨rfl, rfl⟩
              refine DL.only (i := 5) (by kernel_rfl) ?_
              refine DL1.stepF rfl rfl rfl (by kernel_rfl) (by exact OpW.call (first := []) (captured := []) inferInstance rfl rfl (Right_ok (n := 10) (by decide) (by decide))) ?_; rintro r67 _ ⟨rfl, rfl⟩
              refine DL.only (i := 6) (by kernel_rfl) ?_
              refine DL1.stepF rfl rfl rfl (by kernel_rfl) (by exact OpW.call (first := []) (captured := []) inferInstance rfl rfl Odd_ok) ?_; rintro r68 _ ⟨rfl, rfl⟩
              refine DL.only (i := 8) (by kernel_rfl) ?_
              refine DL1.stepF0 rfl rfl (by kernel_rfl) (OpM.w (by apply OpM.storeN rfl rfl (fc_length _ _) (fc_one fun _ => rfl); (case' hu => exact .head); (case' hs => exact spl_all (by rfl)); done)) ?_; rintro _ _ ⟨rfl, rfl⟩
              refine DL.done (by kernel_rfl) ?_
            rotate_left 1
            all_goals exact go _ trivial (by repeat (first | exact SubEnv.nil | refine SubEnv.cons (by first | rfl | exact congrArg (fun z => some (Value.int .i64 z)) (by omega) | (simp; done)) ?_)) (fun _ h => Own.pick (pre := [_, _, _, _]) [0, 1, 3] rfl h)
        · refine J.regionD [0, 2, 4] (by kernel_rfl) ?_
          refine DL.read (i := 0) (by kernel_rfl) (by kernel_rfl) rfl rfl rfl (fun _ h => h) (OpR.loadN rfl (Cells.full .head) rfl) ?_
          refine DL.read (i := 2) (by kernel_rfl) (by kernel_rfl) rfl rfl rfl (fun _ h => h) (OpR.loadN rfl (Cells.full .head) rfl) ?_
          refine DL.read (i := 4) (by kernel_rfl) (by kernel_rfl) rfl rfl rfl (fun _ h => h) (OpR.loadN rfl (Cells.full .head) rfl) ?_
          refine DL.two (i := 1) (j := 7) (by kernel_rfl) ?_ ?_
          focus
            refine DL1.stepK rfl rfl rfl (by exact OpW.call (first := []) (captured := []) inferInstance rfl rfl (Right_ok (n := 7) (by decide) (by decide))) (by rintro _ _ ⟨rfl, rfl⟩ _ h; exact Own.pick (pre := [_, _, _]) [0, 1, 2] rfl h) ?_; rintro r56 _ ⟨rfl, rfl⟩
            refine DL.two (i := 3) (j := 7) (by kernel_rfl) ?_ ?_
            focus
              refine DL1.stepK rfl rfl rfl (by exact OpW.call (first := []) (captured := []) inferInstance rfl rfl (Right_ok (n := 18) (by decide) (by decide))) (by rintro _ _ ⟨rfl, rfl⟩ _ h; exact Own.pick (pre := [_, _, _]) [0, 1, 2] rfl h) ?_; rintro r58 _ ⟨rfl, rfl⟩
              refine DL.two (i := 5) (j := 7) (by kernel_rfl) ?_ ?_
              focus
                refine DL1.stepF rfl rfl rfl (by kernel_rfl) (by exact OpW.call (first := []) (captured := []) inferInstance rfl rfl (Right_ok (n := 3) (by decide) (by decide))) ?_; rintro r60 _ ⟨rfl, rfl⟩
                refine DL.two (i := 6) (j := 7) (by kernel_rfl) ?_ ?_
                focus
                  refine DL1.stepF rfl rfl rfl (by kernel_rfl) (by exact OpW.call (first := []) (captured := []) inferInstance rfl rfl Odd_ok) ?_; rintro r61 _ ⟨rfl, rfl⟩
                  refine DL.only (i := 7) (by kernel_rfl) ?_
                  refine DL1.stepK rfl rfl rfl (OpM.w OpM.alloc) (by rintro _ _ ⟨b10, rfl, rfl⟩ _ h; exact Own.pick (pre := [_, _, _, _]) [1, 2, 3] rfl h) ?_; rintro _ _ ⟨b10, rfl, rfl⟩
                  refine DL.only (i := 8) (by kernel_rfl) ?_
                  refine DL1.stepF0 rfl rfl (by kernel_rfl) (OpM.w (by apply OpM.storeN rfl rfl (fc_length _ _) (fc_one fun _ => rfl); (case' hu => exact .head); (case' hs => exact spl_all (by rfl)); done)) ?_; rintro _ _ ⟨rfl, rfl⟩
                  refine DL.done (by kernel_rfl) ?_
                rotate_left 1
                focus
                  refine DL1.stepK rfl rfl rfl (OpM.w OpM.alloc) (by rintro _ _ ⟨b10, rfl, rfl⟩ _ h; exact Own.pick (pre := [_, _, _, _]) [1, 2, 3] rfl h) ?_; rintro _ _ ⟨b10, rfl, rfl⟩
                  refine DL.only (i := 6) (by kernel_rfl) ?_
                  refine DL1.stepF rfl rfl rfl (by kernel_rfl) (by exact OpW.call (first := []) (captured := []) inferInstance rfl rfl Odd_ok) ?_; rintro r61 _ ⟨rfl, rfl⟩
                  refine DL.only (i := 8) (by kernel_rfl) ?_
                  refine DL1.stepF0 rfl rfl (by kernel_rfl) (OpM.w (by apply OpM.storeN rfl rfl (fc_length _ _) (fc_one fun _ => rfl); (case' hu => exact .head); (case' hs => exact spl_all (by rfl)); done)) ?_; rintro _ _ ⟨rfl, rfl⟩
                  refine DL.done (by kernel_rfl) ?_
                rotate_left 1
              rotate_left 2
              focus
                refine DL1.stepK rfl rfl rfl (OpM.w OpM.alloc) (by rintro _ _ ⟨b10, rfl, rfl⟩ _ h; exact Own.pick (pre := [_, _, _, _]) [1, 2, 3] rfl h) ?_; rintro _ _ ⟨b10, rfl, rfl⟩
                refine DL.only (i := 5) (by kernel_rfl) ?_
                refine DL1.stepF rfl rfl rfl (by kernel_rfl) (by exact OpW.call (first := []) (captured := []) inferInstance rfl rfl (Right_ok (n := 3) (by decide) (by decide))) ?_; rintro r60 _ ⟨rfl, rfl⟩
                refine DL.only (i := 6) (by kernel_rfl) ?_
                refine DL1.stepF rfl rfl rfl (by kernel_rfl) (by exact OpW.call (first := []) (captured := []) inferInstance rfl rfl Odd_ok) ?_; rintro r61 _ ⟨rfl, rfl⟩
                refine DL.only (i := 8) (by kernel_rfl) ?_
                refine DL1.stepF0 rfl rfl (by kernel_rfl) (OpM.w (by apply OpM.storeN rfl rfl (fc_length _ _) (fc_one fun _ => rfl); (case' hu => exact .head); (case' hs => exact spl_all (by rfl)); done)) ?_; rintro _ _ ⟨rfl, rfl⟩
                refine DL.done (by kernel_rfl) ?_
              rotate_left 1
            rotate_left 3
            focus
              refine DL1.stepK rfl rfl rfl (OpM.w OpM.alloc) (by rintro _ _ ⟨b10, rfl, rfl⟩ _ h; exact Own.pick (pre := [_, _, _, _]) [1, 2, 3] rfl h) ?_; rintro _ _ ⟨b10, rfl, rfl⟩
              refine DL.only (i := 3) (by kernel_rfl) ?_
              refine DL1.stepK rfl rfl rfl (by exact OpW.call (first := []) (captured := []) inferInstance rfl rfl (Right_ok (n := 18) (by decide) (by decide))) (by rintro _ _ ⟨rfl, rfl⟩ _ h; exact Own.pick (pre := [_, _, _, _]) [1, 2, 3] rfl h) ?_; rintro r58 _ ⟨rfl, rfl⟩
              refine DL.only (i := 5) (by kernel_rfl) ?_
              refine DL1.stepF rfl rfl rfl (by kernel_rfl) (by exact OpW.call (first := []) (captured := []) inferInstance rfl rfl (Right_ok (n := 3) (by decide) (by decide))) ?_; rintro r60 _ ⟨rfl, rfl⟩
              refine DL.only (i := 6) (by kernel_rfl) ?_
              refine DL1.stepF rfl rfl rfl (by kernel_rfl) (by exact OpW.call (first := []) (captured := []) inferInstance rfl rfl Odd_ok) ?_; rintro r61 _ ⟨rfl, rfl⟩
              refine DL.only (i := 8) (by kernel_rfl) ?_
              refine DL1.stepF0 rfl rfl (by kernel_rfl) (OpM.w (by apply OpM.storeN rfl rfl (fc_length _ _) (fc_one fun _ => rfl); (case' hu => exact .head); (case' hs => exact spl_all (by rfl)); done)) ?_; rintro _ _ ⟨rfl, rfl⟩
              refine DL.done (by kernel_rfl) ?_
            rotate_left 1
          rotate_left 4
          focus
            refine DL1.stepK rfl rfl rfl (OpM.w OpM.alloc) (by rintro _ _ ⟨b10, rfl, rfl⟩ _ h; exact Own.pick (pre := [_, _, _, _]) [1, 2, 3] rfl h) ?_; rintro _ _ ⟨b10, rfl, rfl⟩
            refine DL.only (i := 1) (by kernel_rfl) ?_
            refine DL1.stepK rfl rfl rfl (by exact OpW.call (first := []) (captured := []) inferInstance rfl rfl (Right_ok (n := 7) (by decide) (by decide))) (by rintro _ _ ⟨rfl, rfl⟩ _ h; exact Own.pick (pre := [_, _, _, _]) [1, 2, 3] rfl h) ?_; rintro r56 _ ⟨rfl, rfl⟩
            refine DL.only (i := 3) (by kernel_rfl) ?_
            refine DL1.stepK rfl rfl rfl (by exact OpW.call (first := []) (captured := []) inferInstance rfl rfl (Right_ok (n := 18) (by decide) (by decide))) (by rintro _ _ ⟨rfl, rfl⟩ _ h; exact Own.pick (pre := [_, _, _, _]) [1, 2, 3] rfl h) ?_; rintro r58 _ ⟨rfl, rfl⟩
            refine DL.only (i := 5) (by kernel_rfl) ?_
            refine DL1.stepF rfl rfl rfl (by kernel_rfl) (by exact OpW.call (first := []) (captured := []) inferInstance rfl rfl (Right_ok (n := 3) (by decide) (by decide))) ?_; rintro r60 _ ⟨rfl, rfl⟩
            refine DL.only (i := 6) (by kernel_rfl) ?_
            refine DL1.stepF rfl rfl rfl (by kernel_rfl) (by exact OpW.call (first := []) (captured := []) inferInstance rfl rfl Odd_ok) ?_; rintro r61 _ ⟨rfl, rfl⟩
            refine DL.only (i := 8) (by kernel_rfl) ?_
            refine DL1.stepF0 rfl rfl (by kernel_rfl) (OpM.w (by apply OpM.storeN rfl rfl (fc_length _ _) (fc_one fun _ => rfl); (case' hu => exact .head); (case' hs => exact spl_all (by rfl)); done)) ?_; rintro _ _ ⟨rfl, rfl⟩
            refine DL.done (by kernel_rfl) ?_
          rotate_left 1
          all_goals exact go _ trivial (by repeat (first | exact SubEnv.nil | refine SubEnv.cons (by first | rfl | exact congrArg (fun z => some (Value.int .i64 z)) (by omega) | (simp; done)) ?_)) (fun _ h => Own.pick (pre := [_, _, _, _]) [0, 2, 3] rfl h)
      · refine J.regionD [4, 9] (by kernel_rfl) ?_
        refine DL.pure (i := 0) (by kernel_rfl) (by kernel_rfl) rfl rfl rfl (OpP.move rfl) ?_
        refine DL.pure (i := 1) (by kernel_rfl) (by kernel_rfl) rfl rfl rfl (OpP.move rfl) ?_
        refine DL.pure (i := 2) (by kernel_rfl) (by kernel_rfl) rfl rfl rfl (OpP.subI rfl rfl (by omega) (by omega)) ?_
        refine DL.pure (i := 3) (by kernel_rfl) (by kernel_rfl) rfl rfl rfl (OpP.indexAddr rfl rfl (by omega) (by omega)) ?_
        refine DL.read (i := 4) (by kernel_rfl) (by kernel_rfl) rfl rfl rfl (fun _ h => h) (OpR.loadN rfl (Cells.fBo (Cells.own .head) (by omega)) (fc_length _ _)) ?_
        refine DL.pure (i := 5) (by kernel_rfl) (by kernel_rfl) rfl rfl rfl (OpP.move rfl) ?_
        refine DL.pure (i := 6) (by kernel_rfl) (by kernel_rfl) rfl rfl rfl (OpP.move rfl) ?_
        refine DL.pure (i := 7) (by kernel_rfl) (by kernel_rfl) rfl rfl rfl (OpP.subI rfl rfl (by omega) (by omega)) ?_
        refine DL.pure (i := 8) (by kernel_rfl) (by kernel_rfl) rfl rfl rfl (OpP.indexAddr rfl rfl (by omega) (by omega)) ?_
        refine DL.read (i := 9) (by kernel_rfl) (by kernel_rfl) rfl rfl rfl (fun _ h => h) (OpR.loadN rfl (Cells.fBo (Cells.own .head) (by omega)) (fc_length _ _)) ?_
        refine DL.two (i := 10) (j := 11) (by kernel_rfl) ?_ ?_
        focus
          refine DL1.stepK rfl rfl rfl (OpM.w OpM.alloc) (by rintro _ _ ⟨b8, rfl, rfl⟩ _ h; exact Own.pick (pre := [_, _]) [1] rfl h) ?_; rintro _ _ ⟨b8, rfl, rfl⟩
          refine DL.only (i := 11) (by kernel_rfl) ?_
          refine DL1.stepK rfl rfl rfl (OpM.w OpM.alloc) (by rintro _ _ ⟨b9, rfl, rfl⟩ _ h; exact Own.pick (pre := [_, _, _]) [2] rfl h) ?_; rintro _ _ ⟨b9, rfl, rfl⟩
          refine DL.only (i := 12) (by kernel_rfl) ?_
          refine DL1.stepK0 rfl rfl (OpM.w (by apply OpM.storeN rfl rfl (fc_length _ _) (fc_one fun _ => rfl); (case' hu => exact (.tail .head)); (case' hs => exact spl_all (by rfl)); done)) (by rintro _ _ ⟨rfl, rfl⟩ _ h; exact Own.pick (pre := [_, _, _]) [2] rfl h) ?_; rintro _ _ ⟨rfl, rfl⟩
          refine DL.only (i := 13) (by kernel_rfl) ?_
          refine DL1.stepF0 rfl rfl (by kernel_rfl) (OpM.w (by apply OpM.storeN rfl rfl (fc_length _ _) (fc_one fun _ => rfl); (case' hu => exact .head); (case' hs => exact spl_all (by rfl)); done)) ?_; rintro _ _ ⟨rfl, rfl⟩
          refine DL.done (by kernel_rfl) ?_
        rotate_left 1
        focus
          refine DL1.stepK rfl rfl rfl (OpM.w OpM.alloc) (by rintro _ _ ⟨b9, rfl, rfl⟩ _ h; exact Own.pick (pre := [_, _]) [1] rfl h) ?_; rintro _ _ ⟨b9, rfl, rfl⟩
          refine DL.only (i := 10) (by kernel_rfl) ?_
          refine DL1.stepK rfl rfl rfl (OpM.w OpM.alloc) (by rintro _ _ ⟨b8, rfl, rfl⟩ _ h; exact Own.pick (pre := [_, _, _]) [2] rfl h) ?_; rintro _ _ ⟨b8, rfl, rfl⟩
          refine DL.only (i := 12) (by kernel_rfl) ?_
          refine DL1.stepK0 rfl rfl (OpM.w (by apply OpM.storeN rfl rfl (fc_length _ _) (fc_one fun _ => rfl); (case' hu => exact .head); (case' hs => exact spl_all (by rfl)); done)) (by rintro _ _ ⟨rfl, rfl⟩ _ h; exact Own.pick (pre := [_, _, _]) [2] rfl h) ?_; rintro _ _ ⟨rfl, rfl⟩
          refine DL.only (i := 13) (by kernel_rfl) ?_
          refine DL1.stepF0 rfl rfl (by kernel_rfl) (OpM.w (by apply OpM.storeN rfl rfl (fc_length _ _) (fc_one fun _ => rfl); (case' hu => exact (.tail .head)); (case' hs => exact spl_all (by rfl)); done)) ?_; rintro _ _ ⟨rfl, rfl⟩
          refine DL.done (by kernel_rfl) ?_
        rotate_left 1
        · rw [show ((i : Int) - 15).toNat = i - 15 by omega, show ((i : Int) - 2).toNat = i - 2 by omega]
          exact go (b8, b9) trivial (by repeat (first | exact SubEnv.nil | refine SubEnv.cons (by first | rfl | exact congrArg (fun z => some (Value.int .i64 z)) (by omega) | (simp; done)) ?_)) (fun _ h => Own.pick (pre := [_, _, _]) [1, 0, 2] rfl h)
        · rw [show ((i : Int) - 15).toNat = i - 15 by omega, show ((i : Int) - 2).toNat = i - 2 by omega]
          exact go (b8, b9) trivial (by repeat (first | exact SubEnv.nil | refine SubEnv.cons (by first | rfl | exact congrArg (fun z => some (Value.int .i64 z)) (by omega) | (simp; done)) ?_)) (fun _ h => h)
    · have : i = 64 := by omega
      subst this
      refine J.lit .head fun asv csv esv => ?_; subst esv
      refine J.seq ?_
      refine J.seq ?_
      refine J.region ?_
      refine JL.pure rfl rfl (OpP.move rfl) ?_
      refine JL.decF rfl rfl (OpP.lss rfl rfl) (by omega) ?_
      refine JL.nil ?_
      refine J.condF rfl ?_
      refine J.exit rfl ?_
      refine J.seq ?_
      refine J.region ?_
      refine JL.pure rfl rfl (OpP.move rfl) ?_
      refine JL.pure rfl rfl (OpP.assign rfl) ?_
      refine JL.nil ?_
      refine J.ret1 rfl rfl ?_
      exact ⟨_, ⟨_, _, rfl, rfl⟩, fun _ h => h⟩
end Go.Proofs.F

-- seat f
namespace Go.Proofs.F
open Go Go.Gp Go.RowKit

def hexOk (s : ByteArray) (n : Nat) (x : BitVec 32) : Bool := (List.range 8).all fun i => match s[8 * n + 7 - i]? with
  | some c => (decide (48 ≤ c.toNat) && decide (c.toNat ≤ 57) || decide (97 ≤ c.toNat) && decide (c.toNat ≤ 102)) && digV c.toNat == x.toNat / 16 ^ i % 16
  | none => false
theorem hexOk_spec {s : ByteArray} {n : Nat} {x : BitVec 32} (h : hexOk s n x = true) : ∀ i, i < 8 → ∃ c : UInt8, s[8 * n + 7 - i]? = some c ∧ IsHex c.toNat ∧ digV c.toNat = x.toNat / 16 ^ i % 16 := by
  intro i hi
  have h := (List.all_eq_true.1 h) i (List.mem_range.2 hi)
  split at h
  · rename_i c hc
    simp only [Bool.and_eq_true, Bool.or_eq_true, decide_eq_true_eq, beq_iff_eq] at h
    exact ⟨c, hc, h.1, h.2⟩
  · cases h
set_option maxRecDepth 100000 in
def cK0 : List UInt8 := [52, 50, 56, 97, 50, 102, 57, 56, 55, 49, 51, 55, 52, 52, 57, 49, 98, 53, 99, 48, 102, 98, 99, 102, 101, 57, 98, 53, 100, 98, 97, 53, 51, 57, 53, 54, 99, 50, 53, 98, 53, 57, 102, 49, 49, 49, 102, 49, 57, 50, 51, 102, 56, 50, 97, 52, 97, 98, 49, 99, 53, 101, 100, 53]
set_option maxRecDepth 100000 in
def cK1 : List UInt8 := [100, 56, 48, 55, 97, 97, 57, 56, 49, 50, 56, 51, 53, 98, 48, 49, 50, 52, 51, 49, 56, 53, 98, 101, 53, 53, 48, 99, 55, 100, 99, 51, 55, 50, 98, 101, 53, 100, 55, 52, 56, 48, 100, 101, 98, 49, 102, 101, 57, 98, 100, 99, 48, 54, 97, 55, 99, 49, 57, 98, 102, 49, 55, 52]
set_option maxRecDepth 100000 in
def cK2 : List UInt8 := [101, 52, 57, 98, 54, 57, 99, 49, 101, 102, 98, 101, 52, 55, 56, 54, 48, 102, 99, 49, 57, 100, 99, 54, 50, 52, 48, 99, 97, 49, 99, 99, 50, 100, 101, 57, 50, 99, 54, 102, 52, 97, 55, 52, 56, 52, 97, 97, 53, 99, 98, 48, 97, 57, 100, 99, 55, 54, 102, 57, 56, 56, 100, 97]
set_option maxRecDepth 100000 in
def cK3 : List UInt8 := [57, 56, 51, 101, 53, 49, 53, 50, 97, 56, 51, 49, 99, 54, 54, 100, 98, 48, 48, 51, 50, 55, 99, 56, 98, 102, 53, 57, 55, 102, 99, 55, 99, 54, 101, 48, 48, 98, 102, 51, 100, 53, 97, 55, 57, 49, 52, 55, 48, 54, 99, 97, 54, 51, 53, 49, 49, 52, 50, 57, 50, 57, 54, 55]
set_option maxRecDepth 100000 in
def cK4 : List UInt8 := [50, 55, 98, 55, 48, 97, 56, 53, 50, 101, 49, 98, 50, 49, 51, 56, 52, 100, 50, 99, 54, 100, 102, 99, 53, 51, 51, 56, 48, 100, 49, 51, 54, 53, 48, 97, 55, 51, 53, 52, 55, 54, 54, 97, 48, 97, 98, 98, 56, 49, 99, 50, 99, 57, 50, 101, 57, 50, 55, 50, 50, 99, 56, 53]
set_option maxRecDepth 100000 in
def cK5 : List UInt8 := [97, 50, 98, 102, 101, 56, 97, 49, 97, 56, 49, 97, 54, 54, 52, 98, 99, 50, 52, 98, 56, 98, 55, 48, 99, 55, 54, 99, 53, 49, 97, 51, 100, 49, 57, 50, 101, 56, 49, 57, 100, 54, 57, 57, 48, 54, 50, 52, 102, 52, 48, 101, 51, 53, 56, 53, 49, 48, 54, 97, 97, 48, 55, 48]
set_option maxRecDepth 100000 in
def cK6 : List UInt8 := [49, 57, 97, 52, 99, 49, 49, 54, 49, 101, 51, 55, 54, 99, 48, 56, 50, 55, 52, 56, 55, 55, 52, 99, 51, 52, 98, 48, 98, 99, 98, 53, 51, 57, 49, 99, 48, 99, 98, 51, 52, 101, 100, 56, 97, 97, 52, 97, 53, 98, 57, 99, 99, 97, 52, 102, 54, 56, 50, 101, 54, 102, 102, 51]
set_option maxRecDepth 100000 in
def cK7 : List UInt8 := [55, 52, 56, 102, 56, 50, 101, 101, 55, 56, 97, 53, 54, 51, 54, 102, 56, 52, 99, 56, 55, 56, 49, 52, 56, 99, 99, 55, 48, 50, 48, 56, 57, 48, 98, 101, 102, 102, 102, 97, 97, 52, 53, 48, 54, 99, 101, 98, 98, 101, 102, 57, 97, 51, 102, 55, 99, 54, 55, 49, 55, 56, 102, 50]
/-- The digits of the rounds' words. -/
def constS : ByteArray := ⟨(((cK0.append cK1).append (cK2.append cK3)).append ((cK4.append cK5).append (cK6.append cK7))).toArray⟩
set_option maxRecDepth 100000 in
/-- The digits of the words at the beginning. -/
def beginS : ByteArray := ⟨#[54, 97, 48, 57, 101, 54, 54, 55, 98, 98, 54, 55, 97, 101, 56, 53, 51, 99, 54, 101, 102, 51, 55, 50, 97, 53, 52, 102, 102, 53, 51, 97, 53, 49, 48, 101, 53, 50, 55, 102, 57, 98, 48, 53, 54, 56, 56, 99, 49, 102, 56, 51, 100, 57, 97, 98, 53, 98, 101, 48, 99, 100, 49, 57]⟩
/-- The words of the rounds. -/
def Kn : Nat := 0x428a2f9871374491b5c0fbcfe9b5dba53956c25b59f111f1923f82a4ab1c5ed5d807aa9812835b01243185be550c7dc372be5d7480deb1fe9bdc06a7c19bf174e49b69c1efbe47860fc19dc6240ca1cc2de92c6f4a7484aa5cb0a9dc76f988da983e5152a831c66db00327c8bf597fc7c6e00bf3d5a7914706ca63511429296727b70a852e1b21384d2c6dfc53380d13650a7354766a0abb81c2c92e92722c85a2bfe8a1a81a664bc24b8b70c76c51a3d192e819d6990624f40e3585106aa07019a4c1161e376c082748774c34b0bcb5391c0cb34ed8aa4a5b9cca4f682e6ff3748f82ee78a5636f84c878148cc7020890befffaa4506cebbef9a3f7c67178f2
def Kc : Ws := fun j => BitVec.ofNat 32 (Kn / 2 ^ (32 * (63 - j)))
theorem hexK : (List.range 64).all (fun i => hexOk constS i (Kc i)) = true := by decide +kernel
theorem hexB : (List.range 8).all (fun i => hexOk beginS i (begins i)) = true := by decide +kernel
end Go.Proofs.F

-- seat f
namespace Go.Proofs.F
open Go Go.Gp Go.RowKit

theorem refR_list (K W V : Ws) (i : Nat) : (fB 8 fun j => [refT K W i V + (turn3 (V 0) 2 13 22 + (V 0 &&& V 1 ||| V 2 &&& (V 0 ||| V 1))), V 0, V 1, V 2, V 3 + refT K W i V, V 4, V 5, V 6].getD j 0) = fB 8 (refR K W i V) :=
  fB_congr fun j hj => by
    match j, hj with
    | 0, _ => rfl
    | 1, _ => rfl
    | 2, _ => rfl
    | 3, _ => rfl
    | 4, _ => rfl
    | 5, _ => rfl
    | 6, _ => rfl
    | 7, _ => rfl
end Go.Proofs.F

-- seat f
namespace Go.Proofs.F
open Go Go.Gp Go.RowKit

set_option maxRecDepth 20000 in
set_option maxHeartbeats 1000000 in
theorem Block_ok {w0 : World} {F : List HProp} {bs : List UInt8} {U K : Ws} {v : Value} (hK : ∀ i, i < 64 → hexOk constS i (K i) = true) (hbs : bs.length = 64) (hr : RdO w0 F v 64 (bcells bs)) :
    FnO Tryd.prog w0 62 [.agg (fB 8 U).toArray, v] F (fun r l' => r = .agg (fB 8 (mixW K U bs)).toArray ∧ l' = F) := by
  refine FnO.rd hr fun hr => ?_
  obtain ⟨va, vc, rfl⟩ := hr.lit
  refine FnO.weak ?_
  refine FnO.intro (n := 102) Tryd.func62 rfl rfl rfl ?_
  refine J.seq ?_
  refine J.region ?_
  refine JL.mem rfl rfl (OpM.box rfl rfl) ?_; rintro _ _ ⟨b2, rfl, rfl⟩
  refine JL.mem rfl rfl OpM.alloc ?_; rintro _ _ ⟨b4, rfl, rfl⟩
  refine JL.nil ?_
  refine J.seq ?_
  refine J.region ?_
  refine JL.pure rfl rfl (OpP.move rfl) ?_
  refine JL.step rfl rfl (OpW.call (first := []) (captured := []) inferInstance rfl rfl (Row_ok hbs (hr.o.conv fun _ h => Own.pick (pre := [_, _]) [] rfl h))) ?_; rintro r13 _ ⟨a, ⟨c, ⟨rfl, rfl⟩⟩⟩
  refine JL.pure rfl rfl (OpP.assign rfl) ?_
  refine JL.nil ?_
  refine J.seq ?_
  refine J.region ?_
  refine JL.read rfl rfl (OpR.loadN rfl (Cells.full (.tail (.tail .head))) (fB_length _ _)) ?_
  refine JL.mem rfl rfl OpM.alloc ?_; rintro _ _ ⟨b6, rfl, rfl⟩
  refine JL.mem0 rfl (by apply OpM.storeN rfl rfl (fB_length _ _) fB_one; (case' hu => exact .head); (case' hs => exact spl_all (by first | (rw [fB_length, List.length_replicate]; done) | (rw [fB_length, fB_length]; done) | (rw [fB_length, List.length_replicate]; rfl))); done) ?_; rintro _ _ ⟨rfl, rfl⟩
  refine JL.nil ?_
  refine J.seq ?_
  refine J.seq ?_
  refine J.region ?_
  refine JL.pure rfl rfl (OpP.assign rfl) ?_
  refine JL.nil ?_
  refine J.block ?_
  refine J.loopI (fun i : Nat => 64 - i) (fun i => i ≤ 64) (fun i => [(7, .int .i64 (i : Nat)), (5, .slice a 64 c), (2, .pointer (some ⟨b2, 0, none⟩)), (4, .pointer (some ⟨b4, 0, none⟩)), (6, .pointer (some ⟨b6, 0, none⟩))])
    (fun i => row b6 111 (fB 8 (refRs K (Wd (loadW bs 64)) U i)) :: own 110 32 (.slice a 64 c) 64 (fB 64 (Wd (loadW bs 64))) :: row b2 111 (fB 8 U) :: row b4 111 (List.replicate 256 (.bool false)) :: F) 0 (Nat.zero_le _) (by repeat (first | exact SubEnv.nil | refine SubEnv.cons (by first | rfl | exact congrArg (fun z => some (Value.int .i64 z)) (by omega) | (simp; done)) ?_)) (fun _ h => Own.pick (pre := [_, _, _, _]) [0, 1, 3, 2] rfl h) (fun i hi back => ?_)
  dsimp only at hi back ⊢
  by_cases hlt : i < 64
  · have hRs : refRs K (Wd (loadW bs 64)) U (i + 1) = refR K (Wd (loadW bs 64)) i (refRs K (Wd (loadW bs 64)) U i) := rfl
    generalize Wd (loadW bs 64) = W at hRs back ⊢
    generalize refRs K W U i = V at hRs ⊢
    refine J.seq ?_
    refine J.seq ?_
    refine J.region ?_
    refine JL.pure rfl rfl (OpP.move rfl) ?_
    refine JL.decT rfl rfl (OpP.lss rfl rfl) (by omega) ?_
    refine JL.nil ?_
    refine J.condT rfl ?_
    refine J.skip ?_
    refine J.seq ?_
    refine J.block ?_
    refine J.seq ?_
    refine J.cut (σ := Nat) (fun _ => True) (fun b8 => [(7, .int .i64 (i : Nat)), (5, .slice a 64 c), (2, .pointer (some ⟨b2, 0, none⟩)), (4, .pointer (some ⟨b4, 0, none⟩)), (6, .pointer (some ⟨b6, 0, none⟩)), (8, .pointer (some ⟨b8, 0, none⟩))]) (fun b8 => row b8 110 (fc 32 (bitV (turn3 (V 4) 6 11 25))) :: row b6 111 (fB 8 V) :: own 110 32 (.slice a 64 c) 64 (fB 64 W) :: row b2 111 (fB 8 U) :: row b4 111 (List.replicate 256 (.bool false)) :: F) (fun b8 _ => ?_) (fun k' go => ?_)
    · refine J.seq ?_
      refine J.cut (σ := Nat) (fun _ => True) (fun b9 => [(7, .int .i64 (i : Nat)), (5, .slice a 64 c), (2, .pointer (some ⟨b2, 0, none⟩)), (4, .pointer (some ⟨b4, 0, none⟩)), (6, .pointer (some ⟨b6, 0, none⟩)), (9, .pointer (some ⟨b9, 0, none⟩))]) (fun b9 => row b9 110 (fc 32 (bitV (refT K W i V))) :: row b6 111 (fB 8 V) :: own 110 32 (.slice a 64 c) 64 (fB 64 W) :: row b2 111 (fB 8 U) :: row b4 111 (List.replicate 256 (.bool false)) :: F) (fun b9 _ => ?_) (fun k' go => ?_)
      · refine J.seq ?_
        refine J.cut (σ := Nat) (fun _ => True) (fun b10 => [(7, .int .i64 (i : Nat)), (5, .slice a 64 c), (2, .pointer (some ⟨b2, 0, none⟩)), (4, .pointer (some ⟨b4, 0, none⟩)), (6, .pointer (some ⟨b6, 0, none⟩)), (9, .pointer (some ⟨b9, 0, none⟩)), (10, .pointer (some ⟨b10, 0, none⟩))]) (fun b10 => row b10 110 (fc 32 (bitV (turn3 (V 0) 2 13 22))) :: row b9 110 (fc 32 (bitV (refT K W i V))) :: row b6 111 (fB 8 V) :: own 110 32 (.slice a 64 c) 64 (fB 64 W) :: row b2 111 (fB 8 U) :: row b4 111 (List.replicate 256 (.bool false)) :: F) (fun b10 _ => ?_) (fun k' go => ?_)
        · refine J.seq ?_
          refine J.regionD [0, 2, 4, 6] (by kernel_rfl) ?_
          refine DL.read (i := 0) (by kernel_rfl) (by kernel_rfl) rfl rfl rfl (fun _ h => h) (OpR.loadN rfl (Cells.full .head) rfl) ?_
          refine DL.pure (i := 1) (by kernel_rfl) (by kernel_rfl) rfl rfl rfl (OpP.indexAddrA rfl rfl (by omega) (by omega)) ?_
          refine DL.read (i := 2) (by kernel_rfl) (by kernel_rfl) rfl rfl rfl (fun _ h => h) (OpR.loadN rfl (Cells.fB (.tail (.tail .head)) (by omega)) (fc_length _ _)) ?_
          refine DL.pure (i := 3) (by kernel_rfl) (by kernel_rfl) rfl rfl rfl (OpP.indexAddrA rfl rfl (by omega) (by omega)) ?_
          refine DL.read (i := 4) (by kernel_rfl) (by kernel_rfl) rfl rfl rfl (fun _ h => h) (OpR.loadN rfl (Cells.fB (.tail (.tail .head)) (by omega)) (fc_length _ _)) ?_
          refine DL.pure (i := 5) (by kernel_rfl) (by kernel_rfl) rfl rfl rfl (OpP.indexAddrA rfl rfl (by omega) (by omega)) ?_
          refine DL.read (i := 6) (by kernel_rfl) (by kernel_rfl) rfl rfl rfl (fun _ h => h) (OpR.loadN rfl (Cells.fB (.tail (.tail .head)) (by omega)) (fc_length _ _)) ?_
          refine DL.only (i := 7) (by kernel_rfl) ?_
          refine DL1.stepK rfl rfl rfl (by exact OpW.call (first := []) (captured := []) inferInstance rfl rfl Most_ok) (by rintro _ _ ⟨rfl, rfl⟩ _ h; exact Own.pick (pre := [_, _, _, _, _, _]) [0, 1, 2, 3, 4, 5] rfl h) ?_; rintro r66 _ ⟨rfl, rfl⟩
          refine DL.only (i := 8) (by kernel_rfl) ?_
          refine DL1.stepF rfl rfl rfl (by kernel_rfl) (by exact OpW.call (first := []) (captured := []) inferInstance rfl rfl Plus_ok) ?_; rintro r67 _ ⟨rfl, rfl⟩
          refine DL.only (i := 9) (by kernel_rfl) ?_
          refine DL1.stepF0 rfl rfl (by kernel_rfl) (OpM.w (by apply OpM.storeN rfl rfl (fc_length _ _) (fc_one fun _ => rfl); (case' hu => exact .head); (case' hs => exact spl_all (by rfl)); done)) ?_; rintro _ _ ⟨rfl, rfl⟩
          refine DL.done (by kernel_rfl) ?_
          refine J.regionD [0, 1, 4, 6, 8, 10, 11, 14, 16, 18] (by kernel_rfl) ?_
          refine DL.read (i := 0) (by kernel_rfl) (by kernel_rfl) rfl rfl rfl (fun _ h => h) (OpR.loadN rfl (Cells.full (.tail .head)) rfl) ?_
          refine DL.read (i := 1) (by kernel_rfl) (by kernel_rfl) rfl rfl rfl (fun _ h => h) (OpR.loadN rfl (Cells.full .head) rfl) ?_
          refine DL.pure (i := 3) (by kernel_rfl) (by kernel_rfl) rfl rfl rfl (OpP.indexAddrA rfl rfl (by omega) (by omega)) ?_
          refine DL.read (i := 4) (by kernel_rfl) (by kernel_rfl) rfl rfl rfl (fun _ h => h) (OpR.loadN rfl (Cells.fB (.tail (.tail .head)) (by omega)) (fc_length _ _)) ?_
          refine DL.pure (i := 5) (by kernel_rfl) (by kernel_rfl) rfl rfl rfl (OpP.indexAddrA rfl rfl (by omega) (by omega)) ?_
          refine DL.read (i := 6) (by kernel_rfl) (by kernel_rfl) rfl rfl rfl (fun _ h => h) (OpR.loadN rfl (Cells.fB (.tail (.tail .head)) (by omega)) (fc_length _ _)) ?_
          refine DL.pure (i := 7) (by kernel_rfl) (by kernel_rfl) rfl rfl rfl (OpP.indexAddrA rfl rfl (by omega) (by omega)) ?_
          refine DL.read (i := 8) (by kernel_rfl) (by kernel_rfl) rfl rfl rfl (fun _ h => h) (OpR.loadN rfl (Cells.fB (.tail (.tail .head)) (by omega)) (fc_length _ _)) ?_
          refine DL.pure (i := 9) (by kernel_rfl) (by kernel_rfl) rfl rfl rfl (OpP.indexAddrA rfl rfl (by omega) (by omega)) ?_
          refine DL.read (i := 10) (by kernel_rfl) (by kernel_rfl) rfl rfl rfl (fun _ h => h) (OpR.loadN rfl (Cells.fB (.tail (.tail .head)) (by omega)) (fc_length _ _)) ?_
          refine DL.read (i := 11) (by kernel_rfl) (by kernel_rfl) rfl rfl rfl (fun _ h => h) (OpR.loadN rfl (Cells.full (.tail .head)) rfl) ?_
          refine DL.pure (i := 13) (by kernel_rfl) (by kernel_rfl) rfl rfl rfl (OpP.indexAddrA rfl rfl (by omega) (by omega)) ?_
          refine DL.read (i := 14) (by kernel_rfl) (by kernel_rfl) rfl rfl rfl (fun _ h => h) (OpR.loadN rfl (Cells.fB (.tail (.tail .head)) (by omega)) (fc_length _ _)) ?_
          refine DL.pure (i := 15) (by kernel_rfl) (by kernel_rfl) rfl rfl rfl (OpP.indexAddrA rfl rfl (by omega) (by omega)) ?_
          refine DL.read (i := 16) (by kernel_rfl) (by kernel_rfl) rfl rfl rfl (fun _ h => h) (OpR.loadN rfl (Cells.fB (.tail (.tail .head)) (by omega)) (fc_length _ _)) ?_
          refine DL.pure (i := 17) (by kernel_rfl) (by kernel_rfl) rfl rfl rfl (OpP.indexAddrA rfl rfl (by omega) (by omega)) ?_
          refine DL.read (i := 18) (by kernel_rfl) (by kernel_rfl) rfl rfl rfl (fun _ h => h) (OpR.loadN rfl (Cells.fB (.tail (.tail .head)) (by omega)) (fc_length _ _)) ?_
          refine DL.only (i := 2) (by kernel_rfl) ?_
          refine DL1.stepK rfl rfl rfl (by exact OpW.call (first := []) (captured := []) inferInstance rfl rfl Plus_ok) (by rintro _ _ ⟨rfl, rfl⟩ _ h; exact Own.pick (pre := [_, _, _, _, _, _]) [0, 1, 2, 3, 4, 5] rfl h) ?_; rintro r70 _ ⟨rfl, rfl⟩
          refine DL.only (i := 12) (by kernel_rfl) ?_
          refine DL1.stepK rfl rfl rfl (by exact OpW.call (first := []) (captured := []) inferInstance rfl rfl Plus_ok) (by rintro _ _ ⟨rfl, rfl⟩ _ h; exact Own.pick (pre := [_, _, _, _, _, _]) [0, 1, 2, 3, 4, 5] rfl h) ?_; rintro r80 _ ⟨rfl, rfl⟩
          refine DL.pure (i := 19) (by kernel_rfl) (by kernel_rfl) rfl rfl rfl (OpP.buildB8 (by exact List.length_replicate) rfl) ?_
          refine DL.only (i := 20) (by kernel_rfl) ?_
          refine DL1.stepF0 rfl rfl (by kernel_rfl) (OpM.w (by apply OpM.storeN rfl rfl (fB_length _ _) fB_one; (case' hu => exact (.tail (.tail .head))); (case' hs => exact spl_all (by first | (rw [fB_length, List.length_replicate]; done) | (rw [fB_length, fB_length]; done) | (rw [fB_length, List.length_replicate]; rfl))); done)) ?_; rintro _ _ ⟨rfl, rfl⟩
          refine DL.done (by kernel_rfl) ?_
          refine J.inBlock ?_
          refine J.region ?_
          refine JL.pure rfl rfl (OpP.move rfl) ?_
          refine JL.pure rfl rfl (OpP.addI rfl rfl (by omega) (by omega)) ?_
          refine JL.pure rfl rfl (OpP.assign rfl) ?_
          refine JL.nil ?_
          refine back (i + 1) (by omega) (by omega) (by repeat (first | exact SubEnv.nil | refine SubEnv.cons (by first | rfl | exact congrArg (fun z => some (Value.int .i64 z)) (by omega) | (simp; done)) ?_)) (fun _ h => ?_)
          rw [hRs, ← refR_list]
          exact Own.pick (pre := [_, _, _, _]) [2, 3] rfl h
        · refine J.regionD [1, 4, 7] (by kernel_rfl) ?_
          refine DL.pure (i := 0) (by kernel_rfl) (by kernel_rfl) rfl rfl rfl (OpP.indexAddrA rfl rfl (by omega) (by omega)) ?_
          refine DL.read (i := 1) (by kernel_rfl) (by kernel_rfl) rfl rfl rfl (fun _ h => h) (OpR.loadN rfl (Cells.fB (.tail .head) (by omega)) (fc_length _ _)) ?_
          refine DL.pure (i := 3) (by kernel_rfl) (by kernel_rfl) rfl rfl rfl (OpP.indexAddrA rfl rfl (by omega) (by omega)) ?_
          refine DL.read (i := 4) (by kernel_rfl) (by kernel_rfl) rfl rfl rfl (fun _ h => h) (OpR.loadN rfl (Cells.fB (.tail .head) (by omega)) (fc_length _ _)) ?_
          refine DL.pure (i := 6) (by kernel_rfl) (by kernel_rfl) rfl rfl rfl (OpP.indexAddrA rfl rfl (by omega) (by omega)) ?_
          refine DL.read (i := 7) (by kernel_rfl) (by kernel_rfl) rfl rfl rfl (fun _ h => h) (OpR.loadN rfl (Cells.fB (.tail .head) (by omega)) (fc_length _ _)) ?_
          refine DL.two (i := 2) (j := 10) (by kernel_rfl) ?_ ?_
          focus
            refine DL1.stepK rfl rfl rfl (by exact OpW.call (first := []) (captured := []) inferInstance rfl rfl (Right_ok (n := 2) (by decide) (by decide))) (by rintro _ _ ⟨rfl, rfl⟩ _ h; exact Own.pick (pre := [_, _, _, _, _]) [0, 1, 2, 3, 4] rfl h) ?_; rintro r51 _ ⟨rfl, rfl⟩
            refine DL.two (i := 5) (j := 10) (by kernel_rfl) ?_ ?_
            focus
              refine DL1.stepK rfl rfl rfl (by exact OpW.call (first := []) (captured := []) inferInstance rfl rfl (Right_ok (n := 13) (by decide) (by decide))) (by rintro _ _ ⟨rfl, rfl⟩ _ h; exact Own.pick (pre := [_, _, _, _, _]) [0, 1, 2, 3, 4] rfl h) ?_; rintro r54 _ ⟨rfl, rfl⟩
              refine DL.two (i := 8) (j := 10) (by kernel_rfl) ?_ ?_
              focus
                refine DL1.stepF rfl rfl rfl (by kernel_rfl) (by exact OpW.call (first := []) (captured := []) inferInstance rfl rfl (Right_ok (n := 22) (by decide) (by decide))) ?_; rintro r57 _ ⟨rfl, rfl⟩
                refine DL.two (i := 9) (j := 10) (by kernel_rfl) ?_ ?_
                focus
                  refine DL1.stepF rfl rfl rfl (by kernel_rfl) (by exact OpW.call (first := []) (captured := []) inferInstance rfl rfl Odd_ok) ?_; rintro r58 _ ⟨rfl, rfl⟩
                  refine DL.only (i := 10) (by kernel_rfl) ?_
                  refine DL1.stepK rfl rfl rfl (OpM.w OpM.alloc) (by rintro _ _ ⟨b10, rfl, rfl⟩ _ h; exact Own.pick (pre := [_, _, _, _, _, _]) [1, 2, 3, 4, 5] rfl h) ?_; rintro _ _ ⟨b10, rfl, rfl⟩
                  refine DL.only (i := 11) (by kernel_rfl) ?_
                  refine DL1.stepF0 rfl rfl (by kernel_rfl) (OpM.w (by apply OpM.storeN rfl rfl (fc_length _ _) (fc_one fun _ => rfl); (case' hu => exact .head); (case' hs => exact spl_all (by rfl)); done)) ?_; rintro _ _ ⟨rfl, rfl⟩
                  refine DL.done (by kernel_rfl) ?_
                rotate_left 1
                focus
                  refine DL1.stepK rfl rfl rfl (OpM.w OpM.alloc) (by rintro _ _ ⟨b10, rfl, rfl⟩ _ h; exact Own.pick (pre := [_, _, _, _, _, _]) [1, 2, 3, 4, 5] rfl h) ?_; rintro _ _ ⟨b10, rfl, rfl⟩
                  refine DL.only (i := 9) (by kernel_rfl) ?_
                  refine DL1.stepF rfl rfl rfl (by kernel_rfl) (by exact OpW.call (first := []) (captured := []) inferInstance rfl rfl Odd_ok) ?_; rintro r58 _ ⟨rfl, rfl⟩
                  refine DL.only (i := 11) (by kernel_rfl) ?_
                  refine DL1.stepF0 rfl rfl (by kernel_rfl) (OpM.w (by apply OpM.storeN rfl rfl (fc_length _ _) (fc_one fun _ => rfl); (case' hu => exact .head); (case' hs => exact spl_all (by rfl)); done)) ?_; rintro _ _ ⟨rfl, rfl⟩
                  refine DL.done (by kernel_rfl) ?_
                rotate_left 1
              rotate_left 2
              focus
                refine DL1.stepK rfl rfl rfl (OpM.w OpM.alloc) (by rintro _ _ ⟨b10, rfl, rfl⟩ _ h; exact Own.pick (pre := [_, _, _, _, _, _]) [1, 2, 3, 4, 5] rfl h) ?_; rintro _ _ ⟨b10, rfl, rfl⟩
                refine DL.only (i := 8) (by kernel_rfl) ?_
                refine DL1.stepF rfl rfl rfl (by kernel_rfl) (by exact OpW.call (first := []) (captured := []) inferInstance rfl rfl (Right_ok (n := 22) (by decide) (by decide))) ?_; rintro r57 _ ⟨rfl, rfl⟩
                refine DL.only (i := 9) (by kernel_rfl) ?_
                refine DL1.stepF rfl rfl rfl (by kernel_rfl) (by exact OpW.call (first := []) (captured := []) inferInstance rfl rfl Odd_ok) ?_; rintro r58 _ ⟨rfl, rfl⟩
                refine DL.only (i := 11) (by kernel_rfl) ?_
                refine DL1.stepF0 rfl rfl (by kernel_rfl) (OpM.w (by apply OpM.storeN rfl rfl (fc_length _ _) (fc_one fun _ => rfl); (case' hu => exact .head); (case' hs => exact spl_all (by rfl)); done)) ?_; rintro _ _ ⟨rfl, rfl⟩
                refine DL.done (by kernel_rfl) ?_
              rotate_left 1
            rotate_left 3
            focus
              refine DL1.stepK rfl rfl rfl (OpM.w OpM.alloc) (by rintro _ _ ⟨b10, rfl, rfl⟩ _ h; exact Own.pick (pre := [_, _, _, _, _, _]) [1, 2, 3, 4, 5] rfl h) ?_; rintro _ _ ⟨b10, rfl, rfl⟩
              refine DL.only (i := 5) (by kernel_rfl) ?_
              refine DL1.stepK rfl rfl rfl (by exact OpW.call (first := []) (captured := []) inferInstance rfl rfl (Right_ok (n := 13) (by decide) (by decide))) (by rintro _ _ ⟨rfl, rfl⟩ _ h; exact Own.pick (pre := [_, _, _, _, _, _]) [1, 2, 3, 4, 5] rfl h) ?_; rintro r54 _ ⟨rfl, rfl⟩
              refine DL.only (i := 8) (by kernel_rfl) ?_
              refine DL1.stepF rfl rfl rfl (by kernel_rfl) (by exact OpW.call (first := []) (captured := []) inferInstance rfl rfl (Right_ok (n := 22) (by decide) (by decide))) ?_; rintro r57 _ ⟨rfl, rfl⟩
              refine DL.only (i := 9) (by kernel_rfl) ?_
              refine DL1.stepF rfl rfl rfl (by kernel_rfl) (by exact OpW.call (first := []) (captured := []) inferInstance rfl rfl Odd_ok) ?_; rintro r58 _ ⟨rfl, rfl⟩
              refine DL.only (i := 11) (by kernel_rfl) ?_
              refine DL1.stepF0 rfl rfl (by kernel_rfl) (OpM.w (by apply OpM.storeN rfl rfl (fc_length _ _) (fc_one fun _ => rfl); (case' hu => exact .head); (case' hs => exact spl_all (by rfl)); done)) ?_; rintro _ _ ⟨rfl, rfl⟩
              refine DL.done (by kernel_rfl) ?_
            rotate_left 1
          rotate_left 4
          focus
            refine DL1.stepK rfl rfl rfl (OpM.w OpM.alloc) (by rintro _ _ ⟨b10, rfl, rfl⟩ _ h; exact Own.pick (pre := [_, _, _, _, _, _]) [1, 2, 3, 4, 5] rfl h) ?_; rintro _ _ ⟨b10, rfl, rfl⟩
            refine DL.only (i := 2) (by kernel_rfl) ?_
            refine DL1.stepK rfl rfl rfl (by exact OpW.call (first := []) (captured := []) inferInstance rfl rfl (Right_ok (n := 2) (by decide) (by decide))) (by rintro _ _ ⟨rfl, rfl⟩ _ h; exact Own.pick (pre := [_, _, _, _, _, _]) [1, 2, 3, 4, 5] rfl h) ?_; rintro r51 _ ⟨rfl, rfl⟩
            refine DL.only (i := 5) (by kernel_rfl) ?_
            refine DL1.stepK rfl rfl rfl (by exact OpW.call (first := []) (captured := []) inferInstance rfl rfl (Right_ok (n := 13) (by decide) (by decide))) (by rintro _ _ ⟨rfl, rfl⟩ _ h; exact Own.pick (pre := [_, _, _, _, _, _]) [1, 2, 3, 4, 5] rfl h) ?_; rintro r54 _ ⟨rfl, rfl⟩
            refine DL.only (i := 8) (by kernel_rfl) ?_
            refine DL1.stepF rfl rfl rfl (by kernel_rfl) (by exact OpW.call (first := []) (captured := []) inferInstance rfl rfl (Right_ok (n := 22) (by decide) (by decide))) ?_; rintro r57 _ ⟨rfl, rfl⟩
            refine DL.only (i := 9) (by kernel_rfl) ?_
            refine DL1.stepF rfl rfl rfl (by kernel_rfl) (by exact OpW.call (first := []) (captured := []) inferInstance rfl rfl Odd_ok) ?_; rintro r58 _ ⟨rfl, rfl⟩
            refine DL.only (i := 11) (by kernel_rfl) ?_
            refine DL1.stepF0 rfl rfl (by kernel_rfl) (OpM.w (by apply OpM.storeN rfl rfl (fc_length _ _) (fc_one fun _ => rfl); (case' hu => exact .head); (case' hs => exact spl_all (by rfl)); done)) ?_; rintro _ _ ⟨rfl, rfl⟩
            refine DL.done (by kernel_rfl) ?_
          rotate_left 1
          all_goals exact go _ trivial (by repeat (first | exact SubEnv.nil | refine SubEnv.cons (by first | rfl | exact congrArg (fun z => some (Value.int .i64 z)) (by omega) | (simp; done)) ?_)) (fun _ h => h)
      · refine J.regionD [1, 2, 5, 7, 9, 18] (by kernel_rfl) ?_
        refine DL.pure (i := 0) (by kernel_rfl) (by kernel_rfl) rfl rfl rfl (OpP.indexAddrA rfl rfl (by omega) (by omega)) ?_
        refine DL.read (i := 1) (by kernel_rfl) (by kernel_rfl) rfl rfl rfl (fun _ h => h) (OpR.loadN rfl (Cells.fB (.tail .head) (by omega)) (fc_length _ _)) ?_
        refine DL.read (i := 2) (by kernel_rfl) (by kernel_rfl) rfl rfl rfl (fun _ h => h) (OpR.loadN rfl (Cells.full .head) rfl) ?_
        refine DL.pure (i := 4) (by kernel_rfl) (by kernel_rfl) rfl rfl rfl (OpP.indexAddrA rfl rfl (by omega) (by omega)) ?_
        refine DL.read (i := 5) (by kernel_rfl) (by kernel_rfl) rfl rfl rfl (fun _ h => h) (OpR.loadN rfl (Cells.fB (.tail .head) (by omega)) (fc_length _ _)) ?_
        refine DL.pure (i := 6) (by kernel_rfl) (by kernel_rfl) rfl rfl rfl (OpP.indexAddrA rfl rfl (by omega) (by omega)) ?_
        refine DL.read (i := 7) (by kernel_rfl) (by kernel_rfl) rfl rfl rfl (fun _ h => h) (OpR.loadN rfl (Cells.fB (.tail .head) (by omega)) (fc_length _ _)) ?_
        refine DL.pure (i := 8) (by kernel_rfl) (by kernel_rfl) rfl rfl rfl (OpP.indexAddrA rfl rfl (by omega) (by omega)) ?_
        refine DL.read (i := 9) (by kernel_rfl) (by kernel_rfl) rfl rfl rfl (fun _ h => h) (OpR.loadN rfl (Cells.fB (.tail .head) (by omega)) (fc_length _ _)) ?_
        refine DL.pure (i := 12) (by kernel_rfl) (by kernel_rfl) rfl rfl rfl (OpP.move rfl) ?_
        refine DL.pure (i := 15) (by kernel_rfl) (by kernel_rfl) rfl rfl rfl (OpP.move rfl) ?_
        refine DL.pure (i := 16) (by kernel_rfl) (by kernel_rfl) rfl rfl rfl (OpP.move rfl) ?_
        refine DL.ownSome (.tail (.tail .head)) (by omega) fun ga pa ea ka => ?_; subst ea
        refine DL.pure (i := 17) (by kernel_rfl) (by kernel_rfl) rfl rfl rfl (OpP.indexAddr rfl rfl (by omega) (by omega)) ?_
        refine DL.read (i := 18) (by kernel_rfl) (by kernel_rfl) rfl rfl rfl (fun _ h => h) (OpR.loadN rfl (Cells.fBo (Cells.own (.tail (.tail .head))) (by omega)) (fc_length _ _)) ?_
        refine DL.two (i := 3) (j := 20) (by kernel_rfl) ?_ ?_
        focus
          refine DL1.stepK rfl rfl rfl (by exact OpW.call (first := []) (captured := []) inferInstance rfl rfl Plus_ok) (by rintro _ _ ⟨rfl, rfl⟩ _ h; exact Own.pick (pre := [_, _, _, _, _]) [0, 1, 2, 3, 4] rfl h) ?_; rintro r32 _ ⟨rfl, rfl⟩
          refine DL.two (i := 10) (j := 20) (by kernel_rfl) ?_ ?_
          focus
            refine DL1.stepK rfl rfl rfl (by exact OpW.call (first := []) (captured := []) inferInstance rfl rfl Pick_ok) (by rintro _ _ ⟨rfl, rfl⟩ _ h; exact Own.pick (pre := [_, _, _, _, _]) [0, 1, 2, 3, 4] rfl h) ?_; rintro r39 _ ⟨rfl, rfl⟩
            refine DL.two (i := 11) (j := 20) (by kernel_rfl) ?_ ?_
            focus
              refine DL1.stepK rfl rfl rfl (by exact OpW.call (first := []) (captured := []) inferInstance rfl rfl Plus_ok) (by rintro _ _ ⟨rfl, rfl⟩ _ h; exact Own.pick (pre := [_, _, _, _, _]) [0, 1, 2, 3, 4] rfl h) ?_; rintro r40 _ ⟨rfl, rfl⟩
              refine DL.two (i := 13) (j := 20) (by kernel_rfl) ?_ ?_
              focus
                refine DL1.stepK rfl rfl rfl (by exact OpW.call (first := []) (captured := []) inferInstance rfl rfl (Hex_ok (n := i) hlt (hexOk_spec (hK i hlt)))) (by rintro _ _ ⟨rfl, rfl⟩ _ h; exact Own.pick (pre := [_, _, _, _, _]) [0, 1, 2, 3, 4] rfl h) ?_; rintro r42 _ ⟨rfl, rfl⟩
                refine DL.two (i := 14) (j := 20) (by kernel_rfl) ?_ ?_
                focus
                  refine DL1.stepK rfl rfl rfl (by exact OpW.call (first := []) (captured := []) inferInstance rfl rfl Plus_ok) (by rintro _ _ ⟨rfl, rfl⟩ _ h; exact Own.pick (pre := [_, _, _, _, _]) [0, 1, 2, 3, 4] rfl h) ?_; rintro r43 _ ⟨rfl, rfl⟩
                  refine DL.two (i := 19) (j := 20) (by kernel_rfl) ?_ ?_
                  focus
                    refine DL1.stepF rfl rfl rfl (by kernel_rfl) (by exact OpW.call (first := []) (captured := []) inferInstance rfl rfl Plus_ok) ?_; rintro r48 _ ⟨rfl, rfl⟩
                    refine DL.only (i := 20) (by kernel_rfl) ?_
                    refine DL1.stepK rfl rfl rfl (OpM.w OpM.alloc) (by rintro _ _ ⟨b9, rfl, rfl⟩ _ h; exact Own.pick (pre := [_, _, _, _, _, _]) [1, 2, 3, 4, 5] rfl h) ?_; rintro _ _ ⟨b9, rfl, rfl⟩
                    refine DL.only (i := 21) (by kernel_rfl) ?_
                    refine DL1.stepF0 rfl rfl (by kernel_rfl) (OpM.w (by apply OpM.storeN rfl rfl (fc_length _ _) (fc_one fun _ => rfl); (case' hu => exact .head); (case' hs => exact spl_all (by rfl)); done)) ?_; rintro _ _ ⟨rfl, rfl⟩
                    refine DL.done (by kernel_rfl) ?_
                  rotate_left 1
                  focus
                    refine DL1.stepK rfl rfl rfl (OpM.w OpM.alloc) (by rintro _ _ ⟨b9, rfl, rfl⟩ _ h; exact Own.pick (pre := [_, _, _, _, _, _]) [1, 2, 3, 4, 5] rfl h) ?_; rintro _ _ ⟨b9, rfl, rfl⟩
                    refine DL.only (i := 19) (by kernel_rfl) ?_
                    refine DL1.stepF rfl rfl rfl (by kernel_rfl) (by exact OpW.call (first := []) (captured := []) inferInstance rfl rfl Plus_ok) ?_; rintro r48 _ ⟨rfl, rfl⟩
                    refine DL.only (i := 21) (by kernel_rfl) ?_
                    refine DL1.stepF0 rfl rfl (by kernel_rfl) (OpM.w (by apply OpM.storeN rfl rfl (fc_length _ _) (fc_one fun _ => rfl); (case' hu => exact .head); (case' hs => exact spl_all (by rfl)); done)) ?_; rintro _ _ ⟨rfl, rfl⟩
                    refine DL.done (by kernel_rfl) ?_
                  rotate_left 1
                rotate_left 2
                focus
                  refine DL1.stepK rfl rfl rfl (OpM.w OpM.alloc) (by rintro _ _ ⟨b9, rfl, rfl⟩ _ h; exact Own.pick (pre := [_, _, _, _, _, _]) [1, 2, 3, 4, 5] rfl h) ?_; rintro _ _ ⟨b9, rfl, rfl⟩
                  refine DL.only (i := 14) (by kernel_rfl) ?_
                  refine DL1.stepK rfl rfl rfl (by exact OpW.call (first := []) (captured := []) inferInstance rfl rfl Plus_ok) (by rintro _ _ ⟨rfl, rfl⟩ _ h; exact Own.pick (pre := [_, _, _, _, _, _]) [1, 2, 3, 4, 5] rfl h) ?_; rintro r43 _ ⟨rfl, rfl⟩
                  refine DL.only (i := 19) (by kernel_rfl) ?_
                  refine DL1.stepF rfl rfl rfl (by kernel_rfl) (by exact OpW.call (first := []) (captured := []) inferInstance rfl rfl Plus_ok) ?_; rintro r48 _ ⟨rfl, rfl⟩
                  refine DL.only (i := 21) (by kernel_rfl) ?_
                  refine DL1.stepF0 rfl rfl (by kernel_rfl) (OpM.w (by apply OpM.storeN rfl rfl (fc_length _ _) (fc_one fun _ => rfl); (case' hu => exact .head); (case' hs => exact spl_all (by rfl)); done)) ?_; rintro _ _ ⟨rfl, rfl⟩
                  refine DL.done (by kernel_rfl) ?_
                rotate_left 1
              rotate_left 3
              focus
                refine DL1.stepK rfl rfl rfl (OpM.w OpM.alloc) (by rintro _ _ ⟨b9, rfl, rfl⟩ _ h; exact Own.pick (pre := [_, _, _, _, _, _]) [1, 2, 3, 4, 5] rfl h) ?_; rintro _ _ ⟨b9, rfl, rfl⟩
                refine DL.only (i := 13) (by kernel_rfl) ?_
                refine DL1.stepK rfl rfl rfl (by exact OpW.call (first := []) (captured := []) inferInstance rfl rfl (Hex_ok (n := i) hlt (hexOk_spec (hK i hlt)))) (by rintro _ _ ⟨rfl, rfl⟩ _ h; exact Own.pick (pre := [_, _, _, _, _, _]) [1, 2, 3, 4, 5] rfl h) ?_; rintro r42 _ ⟨rfl, rfl⟩
                refine DL.only (i := 14) (by kernel_rfl) ?_
                refine DL1.stepK rfl rfl rfl (by exact OpW.call (first := []) (captured := []) inferInstance rfl rfl Plus_ok) (by rintro _ _ ⟨rfl, rfl⟩ _ h; exact Own.pick (pre := [_, _, _, _, _, _]) [1, 2, 3, 4, 5] rfl h) ?_; rintro r43 _ ⟨rfl, rfl⟩
                refine DL.only (i := 19) (by kernel_rfl) ?_
                refine DL1.stepF rfl rfl rfl (by kernel_rfl) (by exact OpW.call (first := []) (captured := []) inferInstance rfl rfl Plus_ok) ?_; rintro r48 _ ⟨rfl, rfl⟩
                refine DL.only (i := 21) (by kernel_rfl) ?_
                refine DL1.stepF0 rfl rfl (by kernel_rfl) (OpM.w (by apply OpM.storeN rfl rfl (fc_length _ _) (fc_one fun _ => rfl); (case' hu => exact .head); (case' hs => exact spl_all (by rfl)); done)) ?_; rintro _ _ ⟨rfl, rfl⟩
                refine DL.done (by kernel_rfl) ?_
              rotate_left 1
            rotate_left 4
            focus
              refine DL1.stepK rfl rfl rfl (OpM.w OpM.alloc) (by rintro _ _ ⟨b9, rfl, rfl⟩ _ h; exact Own.pick (pre := [_, _, _, _, _, _]) [1, 2, 3, 4, 5] rfl h) ?_; rintro _ _ ⟨b9, rfl, rfl⟩
              refine DL.only (i := 11) (by kernel_rfl) ?_
              refine DL1.stepK rfl rfl rfl (by exact OpW.call (first := []) (captured := []) inferInstance rfl rfl Plus_ok) (by rintro _ _ ⟨rfl, rfl⟩ _ h; exact Own.pick (pre := [_, _, _, _, _, _]) [1, 2, 3, 4, 5] rfl h) ?_; rintro r40 _ ⟨rfl, rfl⟩
              refine DL.only (i := 13) (by kernel_rfl) ?_
              refine DL1.stepK rfl rfl rfl (by exact OpW.call (first := []) (captured := []) inferInstance rfl rfl (Hex_ok (n := i) hlt (hexOk_spec (hK i hlt)))) (by rintro _ _ ⟨rfl, rfl⟩ _ h; exact Own.pick (pre := [_, _, _, _, _, _]) [1, 2, 3, 4, 5] rfl h) ?_; rintro r42 _ ⟨rfl, rfl⟩
              refine DL.only (i := 14) (by kernel_rfl) ?_
              refine DL1.stepK rfl rfl rfl (by exact OpW.call (first := []) (captured := []) inferInstance rfl rfl Plus_ok) (by rintro _ _ ⟨rfl, rfl⟩ _ h; exact Own.pick (pre := [_, _, _, _, _, _]) [1, 2, 3, 4, 5] rfl h) ?_; rintro r43 _ ⟨rfl, rfl⟩
              refine DL.only (i := 19) (by kernel_rfl) ?_
              refine DL1.stepF rfl rfl rfl (by kernel_rfl) (by exact OpW.call (first := []) (captured := []) inferInstance rfl rfl Plus_ok) ?_; rintro r48 _ ⟨rfl, rfl⟩
              refine DL.only (i := 21) (by kernel_rfl) ?_
              refine DL1.stepF0 rfl rfl (by kernel_rfl) (OpM.w (by apply OpM.storeN rfl rfl (fc_length _ _) (fc_one fun _ => rfl); (case' hu => exact .head); (case' hs => exact spl_all (by rfl)); done)) ?_; rintro _ _ ⟨rfl, rfl⟩
              refine DL.done (by kernel_rfl) ?_
            rotate_left 1
          rotate_left 5
          focus
            refine DL1.stepK rfl rfl rfl (OpM.w OpM.alloc) (by rintro _ _ ⟨b9, rfl, rfl⟩ _ h; exact Own.pick (pre := [_, _, _, _, _, _]) [1, 2, 3, 4, 5] rfl h) ?_; rintro _ _ ⟨b9, rfl, rfl⟩
            refine DL.only (i := 10) (by kernel_rfl) ?_
            refine DL1.stepK rfl rfl rfl (by exact OpW.call (first := []) (captured := []) inferInstance rfl rfl Pick_ok) (by rintro _ _ ⟨rfl, rfl⟩ _ h; exact Own.pick (pre := [_, _, _, _, _, _]) [1, 2, 3, 4, 5] rfl h) ?_; rintro r39 _ ⟨rfl, rfl⟩
            refine DL.only (i := 11) (by kernel_rfl) ?_
            refine DL1.stepK rfl rfl rfl (by exact OpW.call (first := []) (captured := []) inferInstance rfl rfl Plus_ok) (by rintro _ _ ⟨rfl, rfl⟩ _ h; exact Own.pick (pre := [_, _, _, _, _, _]) [1, 2, 3, 4, 5] rfl h) ?_; rintro r40 _ ⟨rfl, rfl⟩
            refine DL.only (i := 13) (by kernel_rfl) ?_
            refine DL1.stepK rfl rfl rfl (by exact OpW.call (first := []) (captured := []) inferInstance rfl rfl (Hex_ok (n := i) hlt (hexOk_spec (hK i hlt)))) (by rintro _ _ ⟨rfl, rfl⟩ _ h; exact Own.pick (pre := [_, _, _, _, _, _]) [1, 2, 3, 4, 5] rfl h) ?_; rintro r42 _ ⟨rfl, rfl⟩
            refine DL.only (i := 14) (by kernel_rfl) ?_
            refine DL1.stepK rfl rfl rfl (by exact OpW.call (first := []) (captured := []) inferInstance rfl rfl Plus_ok) (by rintro _ _ ⟨rfl, rfl⟩ _ h; exact Own.pick (pre := [_, _, _, _, _, _]) [1, 2, 3, 4, 5] rfl h) ?_; rintro r43 _ ⟨rfl, rfl⟩
            refine DL.only (i := 19) (by kernel_rfl) ?_
            refine DL1.stepF rfl rfl rfl (by kernel_rfl) (by exact OpW.call (first := []) (captured := []) inferInstance rfl rfl Plus_ok) ?_; rintro r48 _ ⟨rfl, rfl⟩
            refine DL.only (i := 21) (by kernel_rfl) ?_
            refine DL1.stepF0 rfl rfl (by kernel_rfl) (OpM.w (by apply OpM.storeN rfl rfl (fc_length _ _) (fc_one fun _ => rfl); (case' hu => exact .head); (case' hs => exact spl_all (by rfl)); done)) ?_; rintro _ _ ⟨rfl, rfl⟩
            refine DL.done (by kernel_rfl) ?_
          rotate_left 1
        rotate_left 6
        focus
          refine DL1.stepK rfl rfl rfl (OpM.w OpM.alloc) (by rintro _ _ ⟨b9, rfl, rfl⟩ _ h; exact Own.pick (pre := [_, _, _, _, _, _]) [1, 2, 3, 4, 5] rfl h) ?_; rintro _ _ ⟨b9, rfl, rfl⟩
          refine DL.only (i := 3) (by kernel_rfl) ?_
          refine DL1.stepK rfl rfl rfl (by exact OpW.call (first := []) (captured := []) inferInstance rfl rfl Plus_ok) (by rintro _ _ ⟨rfl, rfl⟩ _ h; exact Own.pick (pre := [_, _, _, _, _, _]) [1, 2, 3, 4, 5] rfl h) ?_; rintro r32 _ ⟨rfl, rfl⟩
          refine DL.only (i := 10) (by kernel_rfl) ?_
          refine DL1.stepK rfl rfl rfl (by exact OpW.call (first := []) (captured := []) inferInstance rfl rfl Pick_ok) (by rintro _ _ ⟨rfl, rfl⟩ _ h; exact Own.pick (pre := [_, _, _, _, _, _]) [1, 2, 3, 4, 5] rfl h) ?_; rintro r39 _ ⟨rfl, rfl⟩
          refine DL.only (i := 11) (by kernel_rfl) ?_
          refine DL1.stepK rfl rfl rfl (by exact OpW.call (first := []) (captured := []) inferInstance rfl rfl Plus_ok) (by rintro _ _ ⟨rfl, rfl⟩ _ h; exact Own.pick (pre := [_, _, _, _, _, _]) [1, 2, 3, 4, 5] rfl h) ?_; rintro r40 _ ⟨rfl, rfl⟩
          refine DL.only (i := 13) (by kernel_rfl) ?_
          refine DL1.stepK rfl rfl rfl (by exact OpW.call (first := []) (captured := []) inferInstance rfl rfl (Hex_ok (n := i) hlt (hexOk_spec (hK i hlt)))) (by rintro _ _ ⟨rfl, rfl⟩ _ h; exact Own.pick (pre := [_, _, _, _, _, _]) [1, 2, 3, 4, 5] rfl h) ?_; rintro r42 _ ⟨rfl, rfl⟩
          refine DL.only (i := 14) (by kernel_rfl) ?_
          refine DL1.stepK rfl rfl rfl (by exact OpW.call (first := []) (captured := []) inferInstance rfl rfl Plus_ok) (by rintro _ _ ⟨rfl, rfl⟩ _ h; exact Own.pick (pre := [_, _, _, _, _, _]) [1, 2, 3, 4, 5] rfl h) ?_; rintro r43 _ ⟨rfl, rfl⟩
          refine DL.only (i := 19) (by kernel_rfl) ?_
          refine DL1.stepF rfl rfl rfl (by kernel_rfl) (by exact OpW.call (first := []) (captured := []) inferInstance rfl rfl Plus_ok) ?_; rintro r48 _ ⟨rfl, rfl⟩
          refine DL.only (i := 21) (by kernel_rfl) ?_
          refine DL1.stepF0 rfl rfl (by kernel_rfl) (OpM.w (by apply OpM.storeN rfl rfl (fc_length _ _) (fc_one fun _ => rfl); (case' hu => exact .head); (case' hs => exact spl_all (by rfl)); done)) ?_; rintro _ _ ⟨rfl, rfl⟩
          refine DL.done (by kernel_rfl) ?_
        rotate_left 1
        all_goals exact go _ trivial (by repeat (first | exact SubEnv.nil | refine SubEnv.cons (by first | rfl | exact congrArg (fun z => some (Value.int .i64 z)) (by omega) | (simp; done)) ?_)) (fun _ h => Own.pick (pre := [_, _]) [0] rfl h)
    · refine J.regionD [1, 4, 7] (by kernel_rfl) ?_
      refine DL.pure (i := 0) (by kernel_rfl) (by kernel_rfl) rfl rfl rfl (OpP.indexAddrA rfl rfl (by omega) (by omega)) ?_
      refine DL.read (i := 1) (by kernel_rfl) (by kernel_rfl) rfl rfl rfl (fun _ h => h) (OpR.loadN rfl (Cells.fB .head (by omega)) (fc_length _ _)) ?_
      refine DL.pure (i := 3) (by kernel_rfl) (by kernel_rfl) rfl rfl rfl (OpP.indexAddrA rfl rfl (by omega) (by omega)) ?_
      refine DL.read (i := 4) (by kernel_rfl) (by kernel_rfl) rfl rfl rfl (fun _ h => h) (OpR.loadN rfl (Cells.fB .head (by omega)) (fc_length _ _)) ?_
      refine DL.pure (i := 6) (by kernel_rfl) (by kernel_rfl) rfl rfl rfl (OpP.indexAddrA rfl rfl (by omega) (by omega)) ?_
      refine DL.read (i := 7) (by kernel_rfl) (by kernel_rfl) rfl rfl rfl (fun _ h => h) (OpR.loadN rfl (Cells.fB .head (by omega)) (fc_length _ _)) ?_
      refine DL.two (i := 2) (j := 10) (by kernel_rfl) ?_ ?_
      focus
        refine DL1.stepK rfl rfl rfl (by exact OpW.call (first := []) (captured := []) inferInstance rfl rfl (Right_ok (n := 6) (by decide) (by decide))) (by rintro _ _ ⟨rfl, rfl⟩ _ h; exact Own.pick (pre := [_, _, _, _]) [0, 1, 2, 3] rfl h) ?_; rintro r21 _ ⟨rfl, rfl⟩
        refine DL.two (i := 5) (j := 10) (by kernel_rfl) ?_ ?_
        focus
          refine DL1.stepK rfl rfl rfl (by exact OpW.call (first := []) (captured := []) inferInstance rfl rfl (Right_ok (n := 11) (by decide) (by decide))) (by rintro _ _ ⟨rfl, rfl⟩ _ h; exact Own.pick (pre := [_, _, _, _]) [0, 1, 2, 3] rfl h) ?_; rintro r24 _ ⟨rfl, rfl⟩
          refine DL.two (i := 8) (j := 10) (by kernel_rfl) ?_ ?_
          focus
            refine DL1.stepF rfl rfl rfl (by kernel_rfl) (by exact OpW.call (first := []) (captured := []) inferInstance rfl rfl (Right_ok (n := 25) (by decide) (by decide))) ?_; rintro r27 _ ⟨rfl, rfl⟩
            refine DL.two (i := 9) (j := 10) (by kernel_rfl) ?_ ?_
            focus
              refine DL1.stepF rfl rfl rfl (by kernel_rfl) (by exact OpW.call (first := []) (captured := []) inferInstance rfl rfl Odd_ok) ?_; rintro r28 _ ⟨rfl, rfl⟩
              refine DL.only (i := 10) (by kernel_rfl) ?_
              refine DL1.stepK rfl rfl rfl (OpM.w OpM.alloc) (by rintro _ _ ⟨b8, rfl, rfl⟩ _ h; exact Own.pick (pre := [_, _, _, _, _]) [1, 2, 3, 4] rfl h) ?_; rintro _ _ ⟨b8, rfl, rfl⟩
              refine DL.only (i := 11) (by kernel_rfl) ?_
              refine DL1.stepF0 rfl rfl (by kernel_rfl) (OpM.w (by apply OpM.storeN rfl rfl (fc_length _ _) (fc_one fun _ => rfl); (case' hu => exact .head); (case' hs => exact spl_all (by rfl)); done)) ?_; rintro _ _ ⟨rfl, rfl⟩
              refine DL.done (by kernel_rfl) ?_
            rotate_left 1
            focus
              refine DL1.stepK rfl rfl rfl (OpM.w OpM.alloc) (by rintro _ _ ⟨b8, rfl, rfl⟩ _ h; exact Own.pick (pre := [_, _, _, _, _]) [1, 2, 3, 4] rfl h) ?_; rintro _ _ ⟨b8, rfl, rfl⟩
              refine DL.only (i := 9) (by kernel_rfl) ?_
              refine DL1.stepF rfl rfl rfl (by kernel_rfl) (by exact OpW.call (first := []) (captured := []) inferInstance rfl rfl Odd_ok) ?_; rintro r28 _ ⟨rfl, rfl⟩
              refine DL.only (i := 11) (by kernel_rfl) ?_
              refine DL1.stepF0 rfl rfl (by kernel_rfl) (OpM.w (by apply OpM.storeN rfl rfl (fc_length _ _) (fc_one fun _ => rfl); (case' hu => exact .head); (case' hs => exact spl_all (by rfl)); done)) ?_; rintro _ _ ⟨rfl, rfl⟩
              refine DL.done (by kernel_rfl) ?_
            rotate_left 1
          rotate_left 2
          focus
            refine DL1.stepK rfl rfl rfl (OpM.w OpM.alloc) (by rintro _ _ ⟨b8, rfl, rfl⟩ _ h; exact Own.pick (pre := [_, _, _, _, _]) [1, 2, 3, 4] rfl h) ?_; rintro _ _ ⟨b8, rfl, rfl⟩
            refine DL.only (i := 8) (by kernel_rfl) ?_
            refine DL1.stepF rfl rfl rfl (by kernel_rfl) (by exact OpW.call (first := []) (captured := []) inferInstance rfl rfl (Right_ok (n := 25) (by decide) (by decide))) ?_; rintro r27 _ ⟨rfl, rfl⟩
            refine DL.only (i := 9) (by kernel_rfl) ?_
            refine DL1.stepF rfl rfl rfl (by kernel_rfl) (by exact OpW.call (first := []) (captured := []) inferInstance rfl rfl Odd_ok) ?_; rintro r28 _ ⟨rfl, rfl⟩
            refine DL.only (i := 11) (by kernel_rfl) ?_
            refine DL1.stepF0 rfl rfl (by kernel_rfl) (OpM.w (by apply OpM.storeN rfl rfl (fc_length _ _) (fc_one fun _ => rfl); (case' hu => exact .head); (case' hs => exact spl_all (by rfl)); done)) ?_; rintro _ _ ⟨rfl, rfl⟩
            refine DL.done (by kernel_rfl) ?_
          rotate_left 1
        rotate_left 3
        focus
          refine DL1.stepK rfl rfl rfl (OpM.w OpM.alloc) (by rintro _ _ ⟨b8, rfl, rfl⟩ _ h; exact Own.pick (pre := [_, _, _, _, _]) [1, 2, 3, 4] rfl h) ?_; rintro _ _ ⟨b8, rfl, rfl⟩
          refine DL.only (i := 5) (by kernel_rfl) ?_
          refine DL1.stepK rfl rfl rfl (by exact OpW.call (first := []) (captured := []) inferInstance rfl rfl (Right_ok (n := 11) (by decide) (by decide))) (by rintro _ _ ⟨rfl, rfl⟩ _ h; exact Own.pick (pre := [_, _, _, _, _]) [1, 2, 3, 4] rfl h) ?_; rintro r24 _ ⟨rfl, rfl⟩
          refine DL.only (i := 8) (by kernel_rfl) ?_
          refine DL1.stepF rfl rfl rfl (by kernel_rfl) (by exact OpW.call (first := []) (captured := []) inferInstance rfl rfl (Right_ok (n := 25) (by decide) (by decide))) ?_; rintro r27 _ ⟨rfl, rfl⟩
          refine DL.only (i := 9) (by kernel_rfl) ?_
          refine DL1.stepF rfl rfl rfl (by kernel_rfl) (by exact OpW.call (first := []) (captured := []) inferInstance rfl rfl Odd_ok) ?_; rintro r28 _ ⟨rfl, rfl⟩
          refine DL.only (i := 11) (by kernel_rfl) ?_
          refine DL1.stepF0 rfl rfl (by kernel_rfl) (OpM.w (by apply OpM.storeN rfl rfl (fc_length _ _) (fc_one fun _ => rfl); (case' hu => exact .head); (case' hs => exact spl_all (by rfl)); done)) ?_; rintro _ _ ⟨rfl, rfl⟩
          refine DL.done (by kernel_rfl) ?_
        rotate_left 1
      rotate_left 4
      focus
        refine DL1.stepK rfl rfl rfl (OpM.w OpM.alloc) (by rintro _ _ ⟨b8, rfl, rfl⟩ _ h; exact Own.pick (pre := [_, _, _, _, _]) [1, 2, 3, 4] rfl h) ?_; rintro _ _ ⟨b8, rfl, rfl⟩
        refine DL.only (i := 2) (by kernel_rfl) ?_
        refine DL1.stepK rfl rfl rfl (by exact OpW.call (first := []) (captured := []) inferInstance rfl rfl (Right_ok (n := 6) (by decide) (by decide))) (by rintro _ _ ⟨rfl, rfl⟩ _ h; exact Own.pick (pre := [_, _, _, _, _]) [1, 2, 3, 4] rfl h) ?_; rintro r21 _ ⟨rfl, rfl⟩
        refine DL.only (i := 5) (by kernel_rfl) ?_
        refine DL1.stepK rfl rfl rfl (by exact OpW.call (first := []) (captured := []) inferInstance rfl rfl (Right_ok (n := 11) (by decide) (by decide))) (by rintro _ _ ⟨rfl, rfl⟩ _ h; exact Own.pick (pre := [_, _, _, _, _]) [1, 2, 3, 4] rfl h) ?_; rintro r24 _ ⟨rfl, rfl⟩
        refine DL.only (i := 8) (by kernel_rfl) ?_
        refine DL1.stepF rfl rfl rfl (by kernel_rfl) (by exact OpW.call (first := []) (captured := []) inferInstance rfl rfl (Right_ok (n := 25) (by decide) (by decide))) ?_; rintro r27 _ ⟨rfl, rfl⟩
        refine DL.only (i := 9) (by kernel_rfl) ?_
        refine DL1.stepF rfl rfl rfl (by kernel_rfl) (by exact OpW.call (first := []) (captured := []) inferInstance rfl rfl Odd_ok) ?_; rintro r28 _ ⟨rfl, rfl⟩
        refine DL.only (i := 11) (by kernel_rfl) ?_
        refine DL1.stepF0 rfl rfl (by kernel_rfl) (OpM.w (by apply OpM.storeN rfl rfl (fc_length _ _) (fc_one fun _ => rfl); (case' hu => exact .head); (case' hs => exact spl_all (by rfl)); done)) ?_; rintro _ _ ⟨rfl, rfl⟩
        refine DL.done (by kernel_rfl) ?_
      rotate_left 1
      all_goals exact go _ trivial (by repeat (first | exact SubEnv.nil | refine SubEnv.cons (by first | rfl | exact congrArg (fun z => some (Value.int .i64 z)) (by omega) | (simp; done)) ?_)) (fun _ h => h)
  · have : i = 64 := by omega
    subst this
    have hm := fun j (hj : j < 8) => mix_ref K U bs hj
    rw [fB_congr hm]
    generalize refRs K (Wd (loadW bs 64)) U 64 = V
    refine J.seq ?_
    refine J.seq ?_
    refine J.region ?_
    refine JL.pure rfl rfl (OpP.move rfl) ?_
    refine JL.decF rfl rfl (OpP.lss rfl rfl) (by omega) ?_
    refine JL.nil ?_
    refine J.condF rfl ?_
    refine J.exit rfl ?_
    refine J.seq ?_
    refine J.seq ?_
    refine J.region ?_
    refine JL.pure rfl rfl (OpP.assign rfl) ?_
    refine JL.nil ?_
    refine J.block ?_
    refine J.loopI (fun i : Nat => 8 - i) (fun i => i ≤ 8) (fun i => [(11, .int .i64 (i : Nat)), (2, .pointer (some ⟨b2, 0, none⟩)), (4, .pointer (some ⟨b4, 0, none⟩)), (6, .pointer (some ⟨b6, 0, none⟩))])
      (fun i => row b2 111 (fB 8 fun j => if j < i then U j + V j else U j) :: row b6 111 (fB 8 V) :: row b4 111 (List.replicate 256 (.bool false)) :: F) 0 (Nat.zero_le _) (by repeat (first | exact SubEnv.nil | refine SubEnv.cons (by first | rfl | exact congrArg (fun z => some (Value.int .i64 z)) (by omega) | (simp; done)) ?_)) (fun _ h => Own.pick (pre := [_, _, _, _]) [2, 0, 3] rfl h) (fun i hi back => ?_)
    dsimp only at hi back ⊢
    by_cases hlt : i < 8
    · refine J.seq ?_
      refine J.seq ?_
      refine J.region ?_
      refine JL.pure rfl rfl (OpP.move rfl) ?_
      refine JL.decT rfl rfl (OpP.lss rfl rfl) (by omega) ?_
      refine JL.nil ?_
      refine J.condT rfl ?_
      refine J.skip ?_
      refine J.seq ?_
      refine J.block ?_
      refine J.regionD [3, 6] (by kernel_rfl) ?_
      refine DL.pure (i := 0) (by kernel_rfl) (by kernel_rfl) rfl rfl rfl (OpP.move rfl) ?_
      refine DL.pure (i := 1) (by kernel_rfl) (by kernel_rfl) rfl rfl rfl (OpP.move rfl) ?_
      refine DL.pure (i := 2) (by kernel_rfl) (by kernel_rfl) rfl rfl rfl (OpP.indexAddrA rfl rfl (by omega) (by omega)) ?_
      refine DL.read (i := 3) (by kernel_rfl) (by kernel_rfl) rfl rfl rfl (fun _ h => h) (OpR.loadN rfl (Cells.fB .head (by omega)) (fc_length _ _)) ?_
      refine DL.pure (i := 4) (by kernel_rfl) (by kernel_rfl) rfl rfl rfl (OpP.move rfl) ?_
      refine DL.pure (i := 5) (by kernel_rfl) (by kernel_rfl) rfl rfl rfl (OpP.indexAddrA rfl rfl (by omega) (by omega)) ?_
      refine DL.read (i := 6) (by kernel_rfl) (by kernel_rfl) rfl rfl rfl (fun _ h => h) (OpR.loadN rfl (Cells.fB (.tail .head) (by omega)) (fc_length _ _)) ?_
      refine DL.only (i := 7) (by kernel_rfl) ?_
      refine DL1.stepF rfl rfl rfl (by kernel_rfl) (by exact OpW.call (first := []) (captured := []) inferInstance rfl rfl Plus_ok) ?_; rintro r99 _ ⟨rfl, rfl⟩
      refine DL.pure (i := 8) (by kernel_rfl) (by kernel_rfl) rfl rfl rfl (OpP.indexAddrA rfl rfl (by omega) (by omega)) ?_
      refine DL.only (i := 9) (by kernel_rfl) ?_
      refine DL1.stepF0 rfl rfl (by kernel_rfl) (OpM.w (by apply OpM.storeN rfl rfl (fc_length _ _) (fc_one fun _ => rfl); (case' hu => exact .head); (case' hs => exact spl_fB (by omega)); done)) ?_; rintro _ _ ⟨rfl, rfl⟩
      refine DL.done (by kernel_rfl) ?_
      refine J.inBlock ?_
      refine J.region ?_
      refine JL.pure rfl rfl (OpP.move rfl) ?_
      refine JL.pure rfl rfl (OpP.addI rfl rfl (by omega) (by omega)) ?_
      refine JL.pure rfl rfl (OpP.assign rfl) ?_
      refine JL.nil ?_
      refine back (i + 1) (by omega) (by omega) (by repeat (first | exact SubEnv.nil | refine SubEnv.cons (by first | rfl | exact congrArg (fun z => some (Value.int .i64 z)) (by omega) | (simp; done)) ?_)) (fun _ h => ?_)
      rw [show (fB 8 fun j => if j < i + 1 then U j + V j else U j) = fB 8 (upd (fun j => if j < i then U j + V j else U j) i ((if i < i then U i + V i else U i) + V i)) from fB_congr fun j _ => by
        unfold upd
        by_cases hj : j = i
        · subst hj; rw [if_pos rfl, if_pos (by omega), if_neg (by omega)]
        · rw [if_neg hj]
          dsimp only
          by_cases h2 : j < i
          · rw [if_pos h2, if_pos (by omega)]
          · rw [if_neg h2, if_neg (by omega)]]
      exact h
    · have : i = 8 := by omega
      subst this
      rw [show (fB 8 fun j => if j < 8 then U j + V j else U j) = fB 8 fun j => U j + V j from fB_congr fun j hj => if_pos hj]
      refine J.seq ?_
      refine J.seq ?_
      refine J.region ?_
      refine JL.pure rfl rfl (OpP.move rfl) ?_
      refine JL.decF rfl rfl (OpP.lss rfl rfl) (by omega) ?_
      refine JL.nil ?_
      refine J.condF rfl ?_
      refine J.exit rfl ?_
      refine J.seq ?_
      refine J.region ?_
      refine JL.read rfl rfl (OpR.loadN rfl (Cells.full .head) (fB_length _ _)) ?_
      refine JL.mem0 rfl (by apply OpM.storeN rfl rfl (fB_length _ _) fB_one; (case' hu => exact (.tail (.tail .head))); (case' hs => exact spl_all (by first | (rw [fB_length, List.length_replicate]; done) | (rw [fB_length, fB_length]; done) | (rw [fB_length, List.length_replicate]; rfl))); done) ?_; rintro _ _ ⟨rfl, rfl⟩
      refine JL.nil ?_
      refine J.retC rfl rfl (by apply Cells.full; (with_reducible repeat (first | exact .head | apply Has.tail))) (by first | (rw [List.length_append, hdC_len (by first | assumption | exact shaB_length _ _ | solve_by_elim)]; rfl) | exact hdC_len (by first | assumption | exact shaB_length _ _ | solve_by_elim) | (rw [bcells_length]; first | assumption | exact shaB_length _ _ | solve_by_elim) | exact fc_length _ _ | exact fB_length _ _ | rfl) ?_
      exact ⟨_, ⟨rfl, rfl⟩, fun _ h => h.tail.tail.tail⟩
end Go.Proofs.F

-- seat f
namespace Go.Proofs.F
open Go Go.Gp Go.RowKit

set_option maxRecDepth 20000 in
theorem BlockR_ok {w0 : World} {F : List HProp} {L : List UInt8} {U K : Ws} {b q n c i : Nat} (hK : ∀ i, i < 64 → hexOk constS i (K i) = true) (hi : 64 * i + 64 ≤ L.length) (hq : q = 64 * i) (hn : n = 64) (hc : 64 ≤ c) :
    FnO Tryd.prog w0 62 [.agg (fB 8 U).toArray, .slice (some ⟨b, q, none⟩) n c] (row b 5 (bcells L) :: F) (fun r l' => r = .agg (fB 8 (mixW K U ((L.drop (64 * i)).take 64))).toArray ∧ l' = row b 5 (bcells L) :: F) := by
  subst hq hn
  refine Block_ok hK (by rw [List.length_take, List.length_drop]; omega) (fun w hw => .inr ⟨b, 64 * i, c, rfl, hc, ?_⟩)
  rw [← bcells_take, ← bcells_drop]
  exact Cells.sub 64 .head rfl
theorem pow128 (m : Nat) : ((128 : Int) / 2 ^ m).toNat = 128 / 2 ^ m := by
  have h : (2 : Int) ^ m = ((2 ^ m : Nat) : Int) := by rw [Int.natCast_pow]; rfl
  rw [h]
  exact Int.toNat_natCast _
set_option maxRecDepth 20000 in
theorem RefSum_ok {w0 : World} {F : List HProp} {text : List UInt8} {v : Value} {K : Ws} (hK : ∀ i, i < 64 → hexOk constS i (K i) = true) (hl : text.length ≤ 100000) (hr : RdO w0 F v text.length (bcells text)) :
    FnO Tryd.prog w0 47 [v] F (fun r l' => r = .agg (bcells (shaB K text)).toArray ∧ l' = F) := by
  refine FnO.rd hr fun hr => ?_
  obtain ⟨va, vc, rfl⟩ := hr.lit
  refine FnO.weak ?_
  refine FnO.intro (n := 90) Tryd.func47 rfl rfl rfl ?_
  refine J.seq ?_
  refine J.region ?_
  refine JL.mem rfl rfl OpM.alloc ?_; rintro _ _ ⟨b2, rfl, rfl⟩
  refine JL.nil ?_
  refine J.seq ?_
  refine J.region ?_
  refine JL.pure rfl rfl (OpP.move rfl) ?_
  refine JL.pure rfl rfl (OpP.len rfl rfl) ?_
  refine JL.pure rfl rfl (OpP.addI rfl rfl (by omega) (by omega)) ?_
  refine JL.pure rfl rfl (OpP.addI rfl rfl (by omega) (by omega)) ?_
  refine JL.pure rfl rfl (OpP.quoI rfl rfl (by omega) (by omega) (by first | decide | (simp only [IntKind.max]; omega) | (simp [IntKind.max, IntKind.signed, IntKind.bits]; omega))) ?_
  refine JL.pure rfl rfl (OpP.assign rfl) ?_
  refine JL.nil ?_
  refine J.seq ?_
  refine J.region ?_
  refine JL.pure rfl rfl (OpP.move rfl) ?_
  refine JL.pure rfl rfl (OpP.mulI rfl rfl (by omega) (by omega)) ?_
  refine JL.mem rfl rfl (by apply OpM.make (by rfl) rfl rfl <;> omega) ?_; rintro _ _ ⟨b19, rfl, rfl⟩
  refine JL.pure rfl rfl (OpP.assign rfl) ?_
  refine JL.nil ?_
  refine J.seq ?_
  refine J.region ?_
  refine JL.pure rfl rfl (OpP.move rfl) ?_
  refine JL.pure rfl rfl (OpP.move rfl) ?_
  have eB : ((text.length : Int) + 9 + 63) / 64 = (((text.length + 72) / 64 : Nat) : Int) := by omega
  have e64 : ((64 : Int) * (((text.length + 72) / 64 : Nat) : Int)).toNat = 64 * ((text.length + 72) / 64) := by omega
  rw [eB, e64]
  have hpl := fun t (ht : t ≤ 8) => padT_length text ht
  have hp0 := padT_zero text
  have hps := fun t (ht : t < 8) => padT_succ text ht
  have hpb := pad_blocks text
  have hB1 : 64 * ((text.length + 72) / 64) ≤ text.length + 72 := by omega
  have hB2 : text.length + 9 ≤ 64 * ((text.length + 72) / 64) := by omega
  generalize (text.length + 72) / 64 = B at hpl hp0 hps hpb hB1 hB2 ⊢
  have hb0 : rep (64 * B) [Value.int .u8 0] = bcells (List.replicate (64 * B) 0) := by rw [rep_one, bcells_rep]; rfl
  rw [hb0]
  have hspl : Spl (bcells (List.replicate (64 * B) 0)) 0 (bcells text) (bcells (text ++ List.replicate (64 * B - text.length) 0)) := by
    have h := Spl.mk (cs := bcells (List.replicate (64 * B) 0)) (vs := bcells text) (o := 0) (by rw [bcells_length, bcells_length, List.length_replicate]; omega)
    rw [List.take_zero, List.nil_append, bcells_drop, ← bcells_app, Nat.zero_add, bcells_length, List.drop_replicate] at h
    exact h
  refine JL.mem rfl rfl (by apply OpM.copyAll rfl rfl rfl ((hr.conv fun _ h => h.tail.tail).src (sz := 1) (by rw [bcells_length]; omega)) (by omega) ⟨_, _, rfl⟩ (bcells_one _) hspl; exact .head) ?_; rintro _ _ ⟨rfl, rfl⟩
  have hlen : text.length < (bcells (text ++ List.replicate (64 * B - text.length) 0)).length := by rw [bcells_length, List.length_append, List.length_replicate]; omega
  refine JL.nil ?_
  refine J.seq ?_
  refine J.region ?_
  refine JL.pure rfl rfl (OpP.move rfl) ?_
  refine JL.pure rfl rfl (OpP.move rfl) ?_
  refine JL.pure rfl rfl (OpP.len rfl rfl) ?_
  refine JL.pure rfl rfl (OpP.indexAddr rfl rfl (by omega) (by omega)) ?_
  refine JL.mem0 rfl (by apply OpM.store1 rfl rfl rfl; (case' hu => exact .head); (case' hs => exact spl_at rfl (by first | assumption | omega)); done) ?_; rintro _ _ ⟨rfl, rfl⟩
  refine JL.nil ?_
  refine J.seq ?_
  refine J.region ?_
  refine JL.pure rfl rfl (OpP.move rfl) ?_
  refine JL.pure rfl rfl (OpP.len rfl rfl) ?_
  refine JL.pure rfl rfl (OpP.mulI rfl rfl (by omega) (by omega)) ?_
  refine JL.pure rfl rfl (OpP.assign rfl) ?_
  refine JL.nil ?_
  refine J.seq ?_
  refine J.seq ?_
  refine J.region ?_
  refine JL.pure rfl rfl (OpP.move rfl) ?_
  refine JL.pure rfl rfl (OpP.len rfl rfl) ?_
  refine JL.pure rfl rfl (OpP.subI rfl rfl (by omega) (by omega)) ?_
  refine JL.pure rfl rfl (OpP.assign rfl) ?_
  refine JL.nil ?_
  refine J.block ?_
  have e0 : (bcells (text ++ List.replicate (64 * B - text.length) 0)).set (0 + (text.length : Int).toNat * 1) (Value.int .u8 128) = bcells (padT text 0) := by
    rw [show 0 + (text.length : Int).toNat * 1 = text.length by omega, show Value.int .u8 128 = u8c 128 from rfl, bcells_set, hp0]
  rw [e0]
  refine J.loopI (fun t : Nat => 9 - t) (fun t => t ≤ 8) (fun t => [(6, .int .i64 ((64 * B : Nat) - 1 - (t : Nat))), (5, .int .i64 (8 * text.length / 256 ^ t : Nat)), (4, .slice (some ⟨b19, 0, none⟩) (64 * B) (64 * B)), (3, .int .i64 (B : Nat)), (2, .pointer (some ⟨b2, 0, none⟩))])
    (fun t => row b19 5 (bcells (padT text t)) :: row b2 35 (List.replicate 32 (.int .u8 0)) :: F) 0 (Nat.zero_le _) (by rw [Nat.pow_zero, Nat.div_one]; exact (by repeat (first | exact SubEnv.nil | refine SubEnv.cons (by first | rfl | exact congrArg (fun z => some (Value.int .i64 z)) (by omega) | (simp; done)) ?_))) (fun _ h => h) (fun t ht back => ?_)
  dsimp only at ht back ⊢
  have hmx : 8 * text.length / 256 ^ t ≤ 800000 := Nat.le_trans (Nat.div_le_self _ _) (by omega)
  by_cases hpos : 0 < 8 * text.length / 256 ^ t
  · have ht8 : t < 8 := by
      rcases Nat.lt_or_ge t 8 with h | h
      · exact h
      · have : t = 8 := by omega
        subst this
        have : 8 * text.length / 256 ^ 8 = 0 := Nat.div_eq_of_lt (by have : 256 ^ 8 = 18446744073709551616 := rfl; omega)
        omega
    have hs1 := hps t ht8
    have hl1 := hpl t ht
    have hdn : 8 * text.length / 256 ^ (t + 1) = 8 * text.length / 256 ^ t / 256 := by rw [Nat.pow_succ, Nat.div_div_eq_div_mul]
    generalize 8 * text.length / 256 ^ t = m at hmx hpos hs1 hdn ⊢
    have hbl : (bcells (padT text t)).length = 64 * B := by rw [bcells_length, hl1]
    refine J.seq ?_
    refine J.seq ?_
    refine J.region ?_
    refine JL.pure rfl rfl (OpP.move rfl) ?_
    refine JL.decT rfl rfl (OpP.gtr rfl rfl) (by omega) ?_
    refine JL.nil ?_
    refine J.condT rfl ?_
    refine J.skip ?_
    refine J.seq ?_
    refine J.block ?_
    refine J.seq ?_
    refine J.region ?_
    refine JL.pure rfl rfl (OpP.move rfl) ?_
    refine JL.pure rfl rfl (OpP.move rfl) ?_
    refine JL.pure rfl rfl (OpP.move rfl) ?_
    refine JL.pure rfl rfl (OpP.remI rfl rfl (by first | omega | exact Int.natCast_nonneg _) (by omega)) ?_
    refine JL.pure rfl rfl (OpP.convI rfl (by simp [IntKind.min, IntKind.max, IntKind.signed, IntKind.bits] <;> omega) (by simp [IntKind.min, IntKind.max, IntKind.signed, IntKind.bits] <;> omega)) ?_
    refine JL.pure rfl rfl (OpP.indexAddr rfl rfl (by omega) (by omega)) ?_
    refine JL.mem0 rfl (by apply OpM.store1 rfl rfl rfl; (case' hu => exact .head); (case' hs => exact spl_at rfl (by first | assumption | omega)); done) ?_; rintro _ _ ⟨rfl, rfl⟩
    refine JL.nil ?_
    refine J.region ?_
    refine JL.pure rfl rfl (OpP.move rfl) ?_
    refine JL.pure rfl rfl (OpP.quoI rfl rfl (by omega) (by omega) (by first | decide | (simp only [IntKind.max]; omega) | (simp [IntKind.max, IntKind.signed, IntKind.bits]; omega))) ?_
    refine JL.pure rfl rfl (OpP.assign rfl) ?_
    refine JL.nil ?_
    refine J.inBlock ?_
    refine J.region ?_
    refine JL.pure rfl rfl (OpP.move rfl) ?_
    refine JL.pure rfl rfl (OpP.subI rfl rfl (by omega) (by omega)) ?_
    refine JL.pure rfl rfl (OpP.assign rfl) ?_
    refine JL.nil ?_
    refine back (t + 1) (by omega) (by omega) (by rw [hdn]; exact (by repeat (first | exact SubEnv.nil | refine SubEnv.cons (by first | rfl | exact congrArg (fun z => some (Value.int .i64 z)) (by omega) | (simp; done)) ?_))) (fun _ h => ?_)
    rw [← hs1, ← bcells_set]
    rw [show 0 + (((64 * B : Nat) : Int) - 1 - (t : Int)).toNat * 1 = 64 * B - 1 - t by omega, show Value.int .u8 ((m : Int) % 256) = u8c (UInt8.ofNat m) from by rw [u8c, UInt8.toNat_ofNat']; rfl] at h
    exact h
  · have hz : 8 * text.length / 256 ^ t = 0 := Nat.eq_zero_of_not_pos hpos
    have he := padT_end text ht hz
    rw [he, hz]
    have hsha : shaB K text = bytesV (eatV K begins (text ++ padP text.length) B) := by
      rw [shaB, stV, hpb, Nat.mul_div_cancel_left _ (by decide)]
    rw [hsha]
    generalize text ++ padP text.length = L at hpb ⊢
    clear he hps hp0 hpl back e0 hspl hlen hb0 hmx
    refine J.seq ?_
    refine J.seq ?_
    refine J.region ?_
    refine JL.pure rfl rfl (OpP.move rfl) ?_
    refine JL.decF rfl rfl (OpP.gtr rfl rfl) (by omega) ?_
    refine JL.nil ?_
    refine J.condF rfl ?_
    refine J.exit rfl ?_
    refine J.seq ?_
    refine J.region ?_
    refine JL.mem rfl rfl OpM.alloc ?_; rintro _ _ ⟨b7, rfl, rfl⟩
    refine JL.nil ?_
    refine J.seq ?_
    refine J.seq ?_
    refine J.region ?_
    refine JL.pure rfl rfl (OpP.assign rfl) ?_
    refine JL.nil ?_
    refine J.block ?_
    refine J.loopI (fun i : Nat => 8 - i) (fun i => i ≤ 8) (fun i => [(8, .int .i64 (i : Nat)), (7, .pointer (some ⟨b7, 0, none⟩)), (4, .slice (some ⟨b19, 0, none⟩) (64 * B) (64 * B)), (3, .int .i64 (B : Nat)), (2, .pointer (some ⟨b2, 0, none⟩))])
      (fun i => row b7 111 (fB 8 fun j => if j < i then begins j else 0) :: row b19 5 (bcells L) :: row b2 35 (List.replicate 32 (.int .u8 0)) :: F) 0 (Nat.zero_le _) (by repeat (first | exact SubEnv.nil | refine SubEnv.cons (by first | rfl | exact congrArg (fun z => some (Value.int .i64 z)) (by omega) | (simp; done)) ?_)) (fun _ h => by
        rw [(fB_rep 8 : List.replicate 256 (Value.bool false) = _)] at h
        exact h) (fun i hi back => ?_)
    dsimp only at hi back ⊢
    by_cases hlt : i < 8
    · have hx := List.all_eq_true.1 hexB i (List.mem_range.2 hlt)
      refine J.seq ?_
      refine J.seq ?_
      refine J.region ?_
      refine JL.pure rfl rfl (OpP.move rfl) ?_
      refine JL.decT rfl rfl (OpP.lss rfl rfl) (by omega) ?_
      refine JL.nil ?_
      refine J.condT rfl ?_
      refine J.skip ?_
      refine J.seq ?_
      refine J.block ?_
      refine J.region ?_
      refine JL.pure rfl rfl (OpP.move rfl) ?_
      refine JL.pure rfl rfl (OpP.move rfl) ?_
      refine JL.step rfl rfl (OpW.call (first := []) (captured := []) inferInstance rfl rfl (Hex_ok (n := i) (by omega) (hexOk_spec hx))) ?_; rintro r51 _ ⟨rfl, rfl⟩
      refine JL.pure rfl rfl (OpP.indexAddrA rfl rfl (by omega) (by omega)) ?_
      refine JL.mem0 rfl (by apply OpM.storeN rfl rfl (fc_length _ _) (fc_one fun _ => rfl); (case' hu => exact .head); (case' hs => exact spl_fB (by omega)); done) ?_; rintro _ _ ⟨rfl, rfl⟩
      refine JL.nil ?_
      refine J.inBlock ?_
      refine J.region ?_
      refine JL.pure rfl rfl (OpP.move rfl) ?_
      refine JL.pure rfl rfl (OpP.addI rfl rfl (by omega) (by omega)) ?_
      refine JL.pure rfl rfl (OpP.assign rfl) ?_
      refine JL.nil ?_
      refine back (i + 1) (by omega) (by omega) (by repeat (first | exact SubEnv.nil | refine SubEnv.cons (by first | rfl | exact congrArg (fun z => some (Value.int .i64 z)) (by omega) | (simp; done)) ?_)) (fun _ h => ?_)
      rw [show (fB 8 fun j => if j < i + 1 then begins j else 0) = fB 8 (upd (fun j => if j < i then begins j else 0) i (begins i)) from fB_congr fun j _ => by
        unfold upd
        by_cases hj : j = i
        · subst hj; rw [if_pos rfl, if_pos (by omega)]
        · rw [if_neg hj]
          dsimp only
          by_cases h2 : j < i
          · rw [if_pos h2, if_pos (by omega)]
          · rw [if_neg h2, if_neg (by omega)]]
      exact h
    · have : i = 8 := by omega
      subst this
      rw [show (fB 8 fun j => if j < 8 then begins j else 0) = fB 8 (eatV K begins L 0) from fB_congr fun j hj => if_pos hj]
      clear back
      refine J.seq ?_
      refine J.seq ?_
      refine J.region ?_
      refine JL.pure rfl rfl (OpP.move rfl) ?_
      refine JL.decF rfl rfl (OpP.lss rfl rfl) (by omega) ?_
      refine JL.nil ?_
      refine J.condF rfl ?_
      refine J.exit rfl ?_
      refine J.seq ?_
      refine J.seq ?_
      refine J.region ?_
      refine JL.pure rfl rfl (OpP.assign rfl) ?_
      refine JL.nil ?_
      refine J.block ?_
      refine J.loopI (fun i : Nat => B - i) (fun i => i ≤ B) (fun i => [(9, .int .i64 (i : Nat)), (7, .pointer (some ⟨b7, 0, none⟩)), (4, .slice (some ⟨b19, 0, none⟩) (64 * B) (64 * B)), (3, .int .i64 (B : Nat)), (2, .pointer (some ⟨b2, 0, none⟩))])
        (fun i => row b7 111 (fB 8 (eatV K begins L i)) :: row b19 5 (bcells L) :: row b2 35 (List.replicate 32 (.int .u8 0)) :: F) 0 (Nat.zero_le _) (by repeat (first | exact SubEnv.nil | refine SubEnv.cons (by first | rfl | exact congrArg (fun z => some (Value.int .i64 z)) (by omega) | (simp; done)) ?_)) (fun _ h => h) (fun i hi back => ?_)
      dsimp only at hi back ⊢
      by_cases hlt : i < B
      · have hil : 64 * i + 64 ≤ L.length := by omega
        have hqi : (if 64 * B = (64 * (i : Int)).toNat then 0 else 0 + (64 * (i : Int)).toNat * 1) = 64 * i := by
          rw [if_neg (by omega)]; omega
        have he1 : eatV K begins L (i + 1) = mixW K (eatV K begins L i) ((L.drop (64 * i)).take 64) := rfl
        refine J.seq ?_
        refine J.seq ?_
        refine J.region ?_
        refine JL.pure rfl rfl (OpP.move rfl) ?_
        refine JL.pure rfl rfl (OpP.move rfl) ?_
        refine JL.decT rfl rfl (OpP.lss rfl rfl) (by omega) ?_
        refine JL.nil ?_
        refine J.condT rfl ?_
        refine J.skip ?_
        refine J.seq ?_
        refine J.block ?_
        refine J.regionD [0] (by kernel_rfl) ?_
        refine DL.read (i := 0) (by kernel_rfl) (by kernel_rfl) rfl rfl rfl (fun _ h => h) (OpR.loadN rfl (Cells.full .head) (fB_length _ _)) ?_
        refine DL.pure (i := 1) (by kernel_rfl) (by kernel_rfl) rfl rfl rfl (OpP.move rfl) ?_
        refine DL.pure (i := 2) (by kernel_rfl) (by kernel_rfl) rfl rfl rfl (OpP.move rfl) ?_
        refine DL.pure (i := 3) (by kernel_rfl) (by kernel_rfl) rfl rfl rfl (OpP.mulI rfl rfl (by omega) (by omega)) ?_
        refine DL.pure (i := 4) (by kernel_rfl) (by kernel_rfl) rfl rfl rfl (OpP.move rfl) ?_
        refine DL.pure (i := 5) (by kernel_rfl) (by kernel_rfl) rfl rfl rfl (OpP.mulI rfl rfl (by omega) (by omega)) ?_
        refine DL.pure (i := 6) (by kernel_rfl) (by kernel_rfl) rfl rfl rfl (OpP.addI rfl rfl (by omega) (by omega)) ?_
        refine DL.pure (i := 7) (by kernel_rfl) (by kernel_rfl) rfl rfl rfl (OpP.sliceFTI rfl rfl rfl (by omega) (by omega) (by omega)) ?_
        refine DL.only (i := 8) (by kernel_rfl) ?_
        refine DL1.f1 ?_; refine DL1.stepF rfl rfl rfl (by kernel_rfl) (by exact OpW.call (first := []) (captured := []) inferInstance rfl rfl (BlockR_ok (i := i) hK hil (by first | assumption | omega | rfl | exact Nat.le_of_ble_eq_true rfl | (simp; omega)) (by first | assumption | omega | rfl | exact Nat.le_of_ble_eq_true rfl | (simp; omega)) (by first | assumption | omega | rfl | exact Nat.le_of_ble_eq_true rfl | (simp; omega)))) ?_; rintro r66 _ ⟨rfl, rfl⟩
        refine DL.only (i := 9) (by kernel_rfl) ?_
        refine DL1.stepF0 rfl rfl (by kernel_rfl) (OpM.w (by apply OpM.storeN rfl rfl (fB_length _ _) fB_one; (case' hu => exact (.tail .head)); (case' hs => exact spl_all (by first | (rw [fB_length, List.length_replicate]; done) | (rw [fB_length, fB_length]; done) | (rw [fB_length, List.length_replicate]; rfl))); done)) ?_; rintro _ _ ⟨rfl, rfl⟩
        refine DL.done (by kernel_rfl) ?_
        refine J.inBlock ?_
        refine J.region ?_
        refine JL.pure rfl rfl (OpP.move rfl) ?_
        refine JL.pure rfl rfl (OpP.addI rfl rfl (by omega) (by omega)) ?_
        refine JL.pure rfl rfl (OpP.assign rfl) ?_
        refine JL.nil ?_
        refine back (i + 1) (by omega) (by omega) (by repeat (first | exact SubEnv.nil | refine SubEnv.cons (by first | rfl | exact congrArg (fun z => some (Value.int .i64 z)) (by omega) | (simp; done)) ?_)) (fun _ h => ?_)
        rw [he1]
        exact Own.f1 h
      · have : i = B := by omega
        subst this
        generalize eatV K begins L i = V
        clear back
        refine J.seq ?_
        refine J.seq ?_
        refine J.region ?_
        refine JL.pure rfl rfl (OpP.move rfl) ?_
        refine JL.pure rfl rfl (OpP.move rfl) ?_
        refine JL.decF rfl rfl (OpP.lss rfl rfl) (by omega) ?_
        refine JL.nil ?_
        refine J.condF rfl ?_
        refine J.exit rfl ?_
        refine J.seq ?_
        refine J.region ?_
        refine JL.mem rfl rfl OpM.alloc ?_; rintro _ _ ⟨b10, rfl, rfl⟩
        refine JL.nil ?_
        refine J.seq ?_
        refine J.seq ?_
        refine J.region ?_
        refine JL.pure rfl rfl (OpP.assign rfl) ?_
        refine JL.nil ?_
        refine J.block ?_
        refine J.loopI (fun i : Nat => 256 - i) (fun i => i ≤ 256) (fun i => [(11, .int .i64 (i : Nat)), (10, .pointer (some ⟨b10, 0, none⟩)), (7, .pointer (some ⟨b7, 0, none⟩)), (2, .pointer (some ⟨b2, 0, none⟩))])
          (fun i => row b10 35 (fc 32 fun q => u8c (outP V i q)) :: row b7 111 (fB 8 V) :: row b2 35 (List.replicate 32 (.int .u8 0)) :: F) 0 (Nat.zero_le _) (by repeat (first | exact SubEnv.nil | refine SubEnv.cons (by first | rfl | exact congrArg (fun z => some (Value.int .i64 z)) (by omega) | (simp; done)) ?_)) (fun _ h => by
            dsimp only
            rw [← fc_rep (f := fun q => u8c (outP V 0 q)) (v := .int .u8 0) (fun q _ => by rw [outP, Nat.zero_sub, show min 8 0 = 0 from rfl, topB_none]; rfl)]
            exact Own.pick (pre := [_, _, _, _]) [0, 1, 3] rfl h) (fun i hi back => ?_)
        dsimp only at hi back ⊢
        by_cases hlt : i < 256
        · have hat := outP_at V i
          have hne := fun q => outP_ne V (i := i) (q := q)
          have hsh : (0 : Int) ≤ 128 / 2 ^ ((i : Int) % 8).toNat := Int.ediv_nonneg (by decide) (Int.le_of_lt (Int.pow_pos (by decide)))
          have hsh2 : (128 : Int) / 2 ^ ((i : Int) % 8).toNat < 256 := Int.lt_of_le_of_lt (Int.ediv_le_self _ (by decide)) (by decide)
          refine J.seq ?_
          refine J.seq ?_
          refine J.region ?_
          refine JL.pure rfl rfl (OpP.move rfl) ?_
          refine JL.decT rfl rfl (OpP.lss rfl rfl) (by omega) ?_
          refine JL.nil ?_
          refine J.condT rfl ?_
          refine J.skip ?_
          refine J.seq ?_
          refine J.block ?_
          refine J.seq ?_
          refine J.region ?_
          refine JL.pure rfl rfl (OpP.move rfl) ?_
          refine JL.pure rfl rfl (OpP.quoI rfl rfl (by omega) (by omega) (by first | decide | (simp only [IntKind.max]; omega) | (simp [IntKind.max, IntKind.signed, IntKind.bits]; omega))) ?_
          refine JL.pure rfl rfl (OpP.move rfl) ?_
          refine JL.pure rfl rfl (OpP.remI rfl rfl (by first | omega | exact Int.natCast_nonneg _) (by omega)) ?_
          refine JL.pure rfl rfl (OpP.subI rfl rfl (by omega) (by omega)) ?_
          refine JL.pure rfl rfl (OpP.indexAddrA rfl rfl (by omega) (by omega)) ?_
          refine JL.pure rfl rfl (OpP.indexAddrA rfl rfl (by omega) (by omega)) ?_
          refine JL.read rfl rfl (OpR.load1 rfl (Cells.fB1 (.tail .head) (by omega) (by omega))) ?_
          refine JL.nil ?_
          refine J.splitAt 78 rfl (fun h78 => ?_) (fun h78 => ?_)
          focus
            refine J.condT rfl ?_
            refine J.region ?_
            refine JL.pure rfl rfl (OpP.move rfl) ?_
            refine JL.pure rfl rfl (OpP.quoI rfl rfl (by omega) (by omega) (by first | decide | (simp only [IntKind.max]; omega) | (simp [IntKind.max, IntKind.signed, IntKind.bits]; omega))) ?_
            refine JL.pure rfl rfl (OpP.indexAddrF rfl rfl (by omega) (by omega)) ?_
            refine JL.read rfl rfl (OpR.load1 rfl (cell_fc .head rfl (by omega))) ?_
            refine JL.pure rfl rfl (OpP.move rfl) ?_
            refine JL.pure rfl rfl (OpP.remI rfl rfl (by first | omega | exact Int.natCast_nonneg _) (by omega)) ?_
            refine JL.pure rfl rfl (OpP.convI rfl (by simp [IntKind.min, IntKind.max, IntKind.signed, IntKind.bits] <;> omega) (by simp [IntKind.min, IntKind.max, IntKind.signed, IntKind.bits] <;> omega)) ?_
            refine JL.pure rfl rfl (OpP.shrI rfl rfl (by omega) (by first | decide | (simp only [IntKind.bits]; omega))) ?_
            refine JL.pure rfl rfl (OpP.orU8 rfl rfl (by first | omega | assumption) (by first | omega | assumption)) ?_
            refine JL.pure rfl rfl (OpP.indexAddrF rfl rfl (by omega) (by omega)) ?_
            refine JL.mem0 rfl (by apply OpM.store1 rfl rfl rfl; (case' hu => exact .head); (case' hs => exact spl_fc rfl (by omega)); done) ?_; rintro _ _ ⟨rfl, rfl⟩
            refine JL.nil ?_
            refine J.inBlock ?_
            refine J.region ?_
            refine JL.pure rfl rfl (OpP.move rfl) ?_
            refine JL.pure rfl rfl (OpP.addI rfl rfl (by omega) (by omega)) ?_
            refine JL.pure rfl rfl (OpP.assign rfl) ?_
            refine JL.nil ?_
          rotate_left 1
          focus
            refine J.condF rfl ?_
            refine J.skip ?_
            refine J.inBlock ?_
            refine J.region ?_
            refine JL.pure rfl rfl (OpP.move rfl) ?_
            refine JL.pure rfl rfl (OpP.addI rfl rfl (by omega) (by omega)) ?_
            refine JL.pure rfl rfl (OpP.assign rfl) ?_
            refine JL.nil ?_
          rotate_left 1
          · refine back (i + 1) (by omega) (by omega) (by repeat (first | exact SubEnv.nil | refine SubEnv.cons (by first | rfl | exact congrArg (fun z => some (Value.int .i64 z)) (by omega) | (simp; done)) ?_)) (fun _ h => ?_)
            rw [show ((i : Int) / 32).toNat = i / 32 by omega, show ((31 : Int) - (i : Int) % 32).toNat = 31 - i % 32 by omega] at h78
            rw [h78, if_pos rfl] at hat
            rw [show ((i : Int) / 8).toNat = i / 8 by omega, show ((i : Int) % 8).toNat = i % 8 by omega, pow128, ← hat] at h
            rw [fc_congr (n := 32) (f := fun q => u8c (outP V (i + 1) q)) (g := upd (fun q => u8c (outP V i q)) (i / 8) (u8c (outP V (i + 1) (i / 8)))) fun q _ => by
              unfold upd
              by_cases hq : q = i / 8
              · subst hq; rw [if_pos rfl]
              · rw [if_neg hq, hne q hq]]
            exact h
          · refine back (i + 1) (by omega) (by omega) (by repeat (first | exact SubEnv.nil | refine SubEnv.cons (by first | rfl | exact congrArg (fun z => some (Value.int .i64 z)) (by omega) | (simp; done)) ?_)) (fun _ h => ?_)
            rw [show ((i : Int) / 32).toNat = i / 32 by omega, show ((31 : Int) - (i : Int) % 32).toNat = 31 - i % 32 by omega] at h78
            rw [h78, if_neg (by decide)] at hat
            rw [fc_congr (n := 32) (f := fun q => u8c (outP V (i + 1) q)) (g := fun q => u8c (outP V i q)) fun q _ => by
              by_cases hq : q = i / 8
              · subst hq; rw [hat]
              · rw [hne q hq]]
            exact h
        · have : i = 256 := by omega
          subst this
          rw [show (fc 32 fun q => u8c (outP V 256 q)) = fc 32 (byteOf V) from fc_congr fun q hq => outP_end V hq]
          refine J.seq ?_
          refine J.seq ?_
          refine J.region ?_
          refine JL.pure rfl rfl (OpP.move rfl) ?_
          refine JL.decF rfl rfl (OpP.lss rfl rfl) (by omega) ?_
          refine JL.nil ?_
          refine J.condF rfl ?_
          refine J.exit rfl ?_
          refine J.seq ?_
          refine J.region ?_
          refine JL.read rfl rfl (OpR.loadN rfl (Cells.full .head) rfl) ?_
          refine JL.mem0 rfl (by apply OpM.storeN rfl rfl (fc_length _ _) (fc_one fun _ => rfl); (case' hu => exact (.tail (.tail .head))); (case' hs => exact spl_all (by rfl)); done) ?_; rintro _ _ ⟨rfl, rfl⟩
          refine JL.nil ?_
          refine J.retC rfl rfl (by apply Cells.full; (with_reducible repeat (first | exact .head | apply Has.tail))) (by first | (rw [List.length_append, hdC_len (by first | assumption | exact shaB_length _ _ | solve_by_elim)]; rfl) | exact hdC_len (by first | assumption | exact shaB_length _ _ | solve_by_elim) | (rw [bcells_length]; first | assumption | exact shaB_length _ _ | solve_by_elim) | exact fc_length _ _ | exact fB_length _ _ | rfl) ?_
          exact ⟨_, ⟨by rw [bytesV_cells], rfl⟩, fun _ h => h.tail.tail.tail⟩
end Go.Proofs.F

-- seat f
namespace Go.Proofs.F
open Go Go.Gp Go.RowKit

theorem Joined_ok {w0 : World} {F : List HProp} {v : Value} {ps : List (Value × List UInt8)} (hn : (cat ps).length ≤ 1000000) (hpl : ps.length ≤ 9223372036854775807) (hp : Parts w0 F v ps) :
    FnO Tryd.prog w0 48 [v] F (fun r l' => l' = own 5 1 r (cat ps).length (bcells (cat ps)) :: F) := by
  refine FnO.rdF (fun _ h => h) hp.rd fun hr0 => ?_
  obtain ⟨va, vc, rfl⟩ := hr0.lit
  refine FnO.weak ?_
  refine FnO.intro (n := 18) Tryd.func48 rfl rfl rfl ?_
  refine J.seq ?_
  refine J.region ?_
  refine JL.pure rfl rfl (OpP.assign rfl) ?_
  refine JL.nil ?_
  refine J.seq ?_
  refine J.region ?_
  refine JL.pure rfl rfl (OpP.assign rfl) ?_
  refine JL.nil ?_
  refine J.seq ?_
  refine J.seq ?_
  refine J.region ?_
  refine JL.pure rfl rfl (OpP.assign rfl) ?_
  refine JL.nil ?_
  refine J.block ?_
  refine J.loopI (fun x : Nat × Value => ps.length - x.1) (fun x => x.1 ≤ ps.length) (fun x => [(4, .int .i64 (x.1 : Nat)), (3, x.2), (0, .slice va ps.length vc)])
    (fun x => own 5 1 x.2 (cat (ps.take x.1)).length (bcells (cat (ps.take x.1))) :: F) (0, .slice none 0 0) (Nat.zero_le _) (by repeat (first | exact SubEnv.nil | refine SubEnv.cons (by first | rfl | exact congrArg (fun z => some (Value.int .i64 z)) (by omega) | (simp; done)) ?_)) (fun _ h => Own.own_nil h) (fun ⟨i, sv⟩ hi back => ?_)
  dsimp only at hi back ⊢
  by_cases hlt : i < ps.length
  · obtain ⟨pa, pc, p, hpi, hpv, hpr⟩ := hp.at hlt
    have hct := cat_take hpi
    have hct2 := congrArg List.length hct
    have hcl := cat_take_le ps (i + 1)
    rw [List.length_append] at hct2
    have hbl : (bcells p).length = p.length * 1 := by rw [bcells_length]; omega
    refine J.lit .head fun asv csv esv => ?_; subst esv
    refine J.seq ?_
    refine J.seq ?_
    refine J.region ?_
    refine JL.pure rfl rfl (OpP.move rfl) ?_
    refine JL.pure rfl rfl (OpP.move rfl) ?_
    refine JL.pure rfl rfl (OpP.len rfl rfl) ?_
    refine JL.decT rfl rfl (OpP.lss rfl rfl) (by omega) ?_
    refine JL.nil ?_
    refine J.condT rfl ?_
    refine J.skip ?_
    refine J.seq ?_
    refine J.block ?_
    refine J.region ?_
    refine JL.pure rfl rfl (OpP.move rfl) ?_
    refine JL.pure rfl rfl (OpP.move rfl) ?_
    refine JL.pure rfl rfl (OpP.move rfl) ?_
    obtain ⟨gva, pva, qva, eva, kva, cva⟩ := hr0.pos (by omega); cases eva
    refine JL.pure rfl rfl (OpP.indexAddr rfl rfl (by omega) (by omega)) ?_
    refine JL.read rfl rfl (OpR.load1 rfl (by apply Cells.cell cva (fun _ h => Own.pick (pre := [_]) [] rfl h); (case' hv => assumption); (case' ho => omega); done)) ?_
    refine JL.mem rfl rfl (OpM.appendH rfl (.inl ⟨_, Sl.und inferInstance⟩) (by rfl) rfl rfl (RdO.src (hpr.conv fun _ h => Own.pick (pre := [_]) [] rfl h) (by first | assumption | exact fc_length _ _ | (simp; done) | (simp; omega))) (by first | exact bcells_one _ | exact scells_one _ | exact icells_one _ | assumption | exact fc_one fun _ => rfl) (by simp only [maxLen]; omega) (by omega)) ?_; rintro _ _ ⟨⟨a16, c16, rfl⟩, rfl⟩
    refine JL.pure rfl rfl (OpP.assign rfl) ?_
    refine JL.nil ?_
    refine J.inBlock ?_
    refine J.region ?_
    refine JL.pure rfl rfl (OpP.move rfl) ?_
    refine JL.pure rfl rfl (OpP.addI rfl rfl (by omega) (by omega)) ?_
    refine JL.pure rfl rfl (OpP.assign rfl) ?_
    refine JL.nil ?_
    refine back (i + 1, .slice a16 ((cat (ps.take i)).length + p.length) c16) (by dsimp only; omega) (by dsimp only; omega) (by repeat (first | exact SubEnv.nil | refine SubEnv.cons (by first | rfl | exact congrArg (fun z => some (Value.int .i64 z)) (by omega) | (simp; done)) ?_)) (fun _ h => ?_)
    dsimp only
    rw [hct, List.length_append, bcells_append]
    exact h
  · have : i = ps.length := by omega
    subst this
    rw [List.take_length]
    refine J.lit .head fun asv csv esv => ?_; subst esv
    refine J.seq ?_
    refine J.seq ?_
    refine J.region ?_
    refine JL.pure rfl rfl (OpP.move rfl) ?_
    refine JL.pure rfl rfl (OpP.move rfl) ?_
    refine JL.pure rfl rfl (OpP.len rfl rfl) ?_
    refine JL.decF rfl rfl (OpP.lss rfl rfl) (by omega) ?_
    refine JL.nil ?_
    refine J.condF rfl ?_
    refine J.exit rfl ?_
    refine J.seq ?_
    refine J.region ?_
    refine JL.pure rfl rfl (OpP.move rfl) ?_
    refine JL.pure rfl rfl (OpP.assign rfl) ?_
    refine JL.nil ?_
    refine J.ret1 rfl rfl ?_
    exact ⟨_, rfl, fun _ h => h⟩
set_option maxRecDepth 20000 in
theorem hexKc : ∀ i, i < 64 → hexOk constS i (Kc i) = true := fun i hi => List.all_eq_true.1 hexK i (List.mem_range.2 hi)
end Go.Proofs.F

-- seat f
namespace Go.Proofs.F
open Go Go.Gp Go.RowKit

def be4 (n : Nat) : List UInt8 := [UInt8.ofNat (n / 16777216), UInt8.ofNat (n / 65536), UInt8.ofNat (n / 256), UInt8.ofNat n]
/-- What a link is the fingerprint of. -/
def linkT (p rc : List UInt8) : List UInt8 := p ++ (be4 rc.length ++ rc)
theorem cat_link {a b c : Value} {p q rc : List UInt8} : cat [(a, p), (b, q), (c, rc)] = p ++ (q ++ rc) := by
  show p ++ (q ++ (rc ++ [])) = _
  rw [List.append_nil]
theorem Link_ok {w0 : World} {F : List HProp} {p rc : List UInt8} {v : Value} {K : Ws} (hK : Tab w0 0 64 fun j => w32 (K j)) (hp : p.length = 32) (hl : rc.length ≤ 800000) (hr : RdO w0 F v rc.length (bcells rc)) :
    FnO Tryd.prog w0 54 [.agg (bcells p).toArray, v] F (fun r l' => r = .agg (bcells (shaB K (linkT p rc))).toArray ∧ l' = F) := by
  refine FnO.rdF (fun _ h => h) hr fun hr0 => ?_
  obtain ⟨va, vc, rfl⟩ := hr0.lit
  refine FnO.weak ?_
  refine FnO.intro (n := 25) Tryd.func54 rfl rfl rfl ?_
  have hs : rc.length ≤ 4294967295 := by omega
  have hl2 : ∀ h : True, rc.length ≤ 800000 := fun _ => hl
  clear hl
  refine J.seq ?_
  refine J.region ?_
  refine JL.mem rfl rfl (OpM.box rfl rfl) ?_; rintro _ _ ⟨b2, rfl, rfl⟩
  refine JL.mem rfl rfl OpM.alloc ?_; rintro _ _ ⟨b4, rfl, rfl⟩
  refine JL.nil ?_
  refine J.seq ?_
  refine J.region ?_
  refine JL.pure rfl rfl (OpP.move rfl) ?_
  refine JL.pure rfl rfl (OpP.len rfl rfl) ?_
  refine JL.pure rfl rfl (OpP.convI rfl (by simp [IntKind.min, IntKind.max, IntKind.signed, IntKind.bits] <;> omega) (by simp [IntKind.min, IntKind.max, IntKind.signed, IntKind.bits] <;> omega)) ?_
  refine JL.pure rfl rfl (OpP.assign rfl) ?_
  refine JL.nil ?_
  refine J.seq ?_
  refine J.region ?_
  refine JL.pure rfl rfl (OpP.sliceA rfl rfl rfl (by first | exact .inl ⟨rfl, rfl⟩ | exact .inr ⟨_, rfl⟩) (by first | exact .inl ⟨rfl, rfl⟩ | exact .inr ⟨_, rfl⟩) (by omega) (by omega)) ?_
  refine JL.pure rfl rfl (OpP.move rfl) ?_
  refine JL.pure rfl rfl (OpP.shrN rfl rfl (by omega) (by first | decide | (simp only [IntKind.bits]; omega))) ?_
  refine JL.pure rfl rfl (OpP.convI rfl (by simp [IntKind.min, IntKind.max, IntKind.signed, IntKind.bits] <;> omega) (by simp [IntKind.min, IntKind.max, IntKind.signed, IntKind.bits] <;> omega)) ?_
  refine JL.pure rfl rfl (OpP.move rfl) ?_
  refine JL.pure rfl rfl (OpP.shrN rfl rfl (by omega) (by first | decide | (simp only [IntKind.bits]; omega))) ?_
  refine JL.pure rfl rfl (OpP.conv rfl) ?_
  refine JL.pure rfl rfl (OpP.move rfl) ?_
  refine JL.pure rfl rfl (OpP.shrN rfl rfl (by omega) (by first | decide | (simp only [IntKind.bits]; omega))) ?_
  refine JL.pure rfl rfl (OpP.conv rfl) ?_
  refine JL.pure rfl rfl (OpP.move rfl) ?_
  refine JL.pure rfl rfl (OpP.conv rfl) ?_
  refine JL.mem rfl rfl (by apply OpM.buildSlice (by rfl) rfl (by rfl); (repeat (first | exact Fills.nil | (apply Fills.cons rfl rfl rfl; (case' hs => ((repeat (first | exact Spl.nil | apply Spl.here | apply Spl.there)); done)))))) ?_; rintro _ _ ⟨b21, rfl, rfl⟩
  refine JL.pure rfl rfl (OpP.move rfl) ?_
  refine JL.mem rfl rfl (by apply OpM.buildSlice (by rfl) rfl (by rfl); (repeat (first | exact Fills.nil | (apply Fills.cons rfl rfl rfl; (case' hs => ((repeat (first | exact Spl.nil | apply Spl.here | apply Spl.there)); done)))))) ?_; rintro _ _ ⟨b23, rfl, rfl⟩
  have e24 : Value.int .u8 ((rc.length / 2 ^ Int.toNat 24 : Nat) : Int) = u8c (UInt8.ofNat (rc.length / 16777216)) := by
    rw [← wrapB, wrap_u8]
    show Value.int .u8 ((rc.length / 16777216 : Nat) : Int) = _
    congr 1
    omega
  rw [show (32 - 0 : Nat) = p.length from hp.symm, show (if 32 = 0 then 0 else 0 + 0 * 1) = 0 from rfl, e24, wrapB, wrapB, wrapB]
  have h1 : (cat [(Value.bool true, p), (Value.bool true, be4 rc.length), (Value.bool true, rc)]).length ≤ 900000 := by
    have := hl2 trivial
    simp [cat, hp, be4]; omega
  refine JL.step rfl rfl (OpW.call (first := []) (captured := []) inferInstance rfl rfl (Of_ok (ps := [(_, p), (_, be4 rc.length), (_, rc)]) hK (by exact h1) (by first | assumption | omega | rfl | exact Nat.le_of_ble_eq_true rfl | (simp; omega)) (Parts.row3 .head (RdO.ofRow (.tail (.tail (.tail .head))) (by first | exact Nat.le_refl _ | decide | omega)) (RdO.ofRow (.tail .head) (by first | exact Nat.le_refl _ | decide | omega)) (hr.conv fun _ h => Own.pick (pre := [_, _, _, _]) [] rfl h) (Nat.le_refl _)))) ?_; rintro r24 _ ⟨rfl, rfl⟩
  refine JL.mem0 rfl (by apply OpM.storeN rfl rfl (by rw [bcells_length]; first | assumption | exact shaB_length _ _ | solve_by_elim) (bcells_one _); (case' hu => exact (.tail (.tail .head))); (case' hs => exact spl_all (by first | (rw [bcells_length, List.length_replicate]; first | assumption | exact shaB_length _ _ | solve_by_elim) | (rw [bcells_length, bcells_length]; refine Eq.trans (b := 32) ?_ (Eq.symm ?_) <;> (first | assumption | exact shaB_length _ _ | solve_by_elim)) | (rw [bcells_length]; first | assumption | exact shaB_length _ _ | solve_by_elim))); done) ?_; rintro _ _ ⟨rfl, rfl⟩
  refine JL.nil ?_
  refine J.retC rfl rfl (by apply Cells.full; (with_reducible repeat (first | exact .head | apply Has.tail))) (by first | (rw [List.length_append, hdC_len (by first | assumption | exact shaB_length _ _ | solve_by_elim)]; rfl) | exact hdC_len (by first | assumption | exact shaB_length _ _ | solve_by_elim) | (rw [bcells_length]; first | assumption | exact shaB_length _ _ | solve_by_elim) | exact fc_length _ _ | exact fB_length _ _ | rfl) ?_
  exact ⟨_, ⟨by rw [cat_link]; rfl, rfl⟩, fun _ h => h.tail.tail.tail.tail⟩
set_option maxRecDepth 20000 in
theorem RefLink_ok {w0 : World} {F : List HProp} {p rc : List UInt8} {v : Value} {K : Ws} (hK : ∀ i, i < 64 → hexOk constS i (K i) = true) (hp : p.length = 32) (hl : rc.length ≤ 80000) (hr : RdO w0 F v rc.length (bcells rc)) :
    FnO Tryd.prog w0 35 [.agg (bcells p).toArray, v] F (fun r l' => r = .agg (bcells (shaB K (linkT p rc))).toArray ∧ l' = F) := by
  refine FnO.rdF (fun _ h => h) hr fun hr0 => ?_
  obtain ⟨va, vc, rfl⟩ := hr0.lit
  refine FnO.weak ?_
  refine FnO.intro (n := 27) Tryd.func35 rfl rfl rfl ?_
  have hs : rc.length ≤ 4294967295 := by omega
  have hl2 : ∀ h : True, rc.length ≤ 80000 := fun _ => hl
  clear hl
  refine J.seq ?_
  refine J.region ?_
  refine JL.mem rfl rfl (OpM.box rfl rfl) ?_; rintro _ _ ⟨b2, rfl, rfl⟩
  refine JL.mem rfl rfl OpM.alloc ?_; rintro _ _ ⟨b4, rfl, rfl⟩
  refine JL.nil ?_
  refine J.seq ?_
  refine J.region ?_
  refine JL.pure rfl rfl (OpP.move rfl) ?_
  refine JL.pure rfl rfl (OpP.len rfl rfl) ?_
  refine JL.pure rfl rfl (OpP.assign rfl) ?_
  refine JL.nil ?_
  refine J.seq ?_
  refine J.region ?_
  refine JL.pure rfl rfl (OpP.move rfl) ?_
  refine JL.pure rfl rfl (OpP.quoI rfl rfl (by omega) (by omega) (by first | decide | (simp only [IntKind.max]; omega) | (simp [IntKind.max, IntKind.signed, IntKind.bits]; omega))) ?_
  refine JL.pure rfl rfl (OpP.convI rfl (by simp [IntKind.min, IntKind.max, IntKind.signed, IntKind.bits] <;> omega) (by simp [IntKind.min, IntKind.max, IntKind.signed, IntKind.bits] <;> omega)) ?_
  refine JL.pure rfl rfl (OpP.move rfl) ?_
  refine JL.pure rfl rfl (OpP.quoI rfl rfl (by omega) (by omega) (by first | decide | (simp only [IntKind.max]; omega) | (simp [IntKind.max, IntKind.signed, IntKind.bits]; omega))) ?_
  refine JL.pure rfl rfl (OpP.conv rfl) ?_
  refine JL.pure rfl rfl (OpP.move rfl) ?_
  refine JL.pure rfl rfl (OpP.quoI rfl rfl (by omega) (by omega) (by first | decide | (simp only [IntKind.max]; omega) | (simp [IntKind.max, IntKind.signed, IntKind.bits]; omega))) ?_
  refine JL.pure rfl rfl (OpP.conv rfl) ?_
  refine JL.pure rfl rfl (OpP.move rfl) ?_
  refine JL.pure rfl rfl (OpP.conv rfl) ?_
  refine JL.mem rfl rfl (by apply OpM.buildSlice (by rfl) rfl (by rfl); (repeat (first | exact Fills.nil | (apply Fills.cons rfl rfl rfl; (case' hs => ((repeat (first | exact Spl.nil | apply Spl.here | apply Spl.there)); done)))))) ?_; rintro _ _ ⟨b20, rfl, rfl⟩
  refine JL.pure rfl rfl (OpP.assign rfl) ?_
  refine JL.nil ?_
  have e1 : Value.int .u8 ((rc.length : Int) / 16777216) = u8c (UInt8.ofNat (rc.length / 16777216)) := by
    rw [← wrapB, wrap_u8]
    congr 1
    omega
  have e2 : Value.int .u8 (IntKind.u8.wrap ((rc.length : Int) / 65536)) = u8c (UInt8.ofNat (rc.length / 65536)) := wrapB _
  have e3 : Value.int .u8 (IntKind.u8.wrap ((rc.length : Int) / 256)) = u8c (UInt8.ofNat (rc.length / 256)) := wrapB _
  rw [e1, e2, e3, wrapB]
  refine J.seq ?_
  refine J.region ?_
  refine JL.pure rfl rfl (OpP.sliceA rfl rfl rfl (by first | exact .inl ⟨rfl, rfl⟩ | exact .inr ⟨_, rfl⟩) (by first | exact .inl ⟨rfl, rfl⟩ | exact .inr ⟨_, rfl⟩) (by omega) (by omega)) ?_
  refine JL.pure rfl rfl (OpP.move rfl) ?_
  refine JL.pure rfl rfl (OpP.move rfl) ?_
  refine JL.mem rfl rfl (by apply OpM.buildSlice (by rfl) rfl (by rfl); (repeat (first | exact Fills.nil | (apply Fills.cons rfl rfl rfl; (case' hs => ((repeat (first | exact Spl.nil | apply Spl.here | apply Spl.there)); done)))))) ?_; rintro _ _ ⟨b24, rfl, rfl⟩
  rw [show (32 - 0 : Nat) = p.length from hp.symm, show (if 32 = 0 then 0 else 0 + 0 * 1) = 0 from rfl]
  have h1 : (cat [(Value.bool true, p), (Value.bool true, be4 rc.length), (Value.bool true, rc)]).length ≤ 100000 := by
    have := hl2 trivial
    simp [cat, hp, be4]; omega
  have h2 : (cat [(Value.bool true, p), (Value.bool true, be4 rc.length), (Value.bool true, rc)]).length ≤ 1000000 := by omega
  refine JL.step rfl rfl (OpW.call (first := []) (captured := []) inferInstance rfl rfl (Joined_ok (ps := [(_, p), (_, be4 rc.length), (_, rc)]) (by exact h2) (by first | assumption | omega | rfl | exact Nat.le_of_ble_eq_true rfl | (simp; omega)) (Parts.row3 .head (RdO.ofRow (.tail (.tail (.tail .head))) (by first | exact Nat.le_refl _ | decide | omega)) (RdO.ofRow (.tail .head) (by first | exact Nat.le_refl _ | decide | omega)) (hr.conv fun _ h => Own.pick (pre := [_, _, _, _]) [] rfl h) (Nat.le_refl _)))) ?_; rintro r25 _ rfl
  refine JL.lit .head fun ar25 cr25 er25 => ?_; subst er25
  refine JL.step rfl rfl (OpW.call (first := []) (captured := []) inferInstance rfl rfl (RefSum_ok hK (by exact h1) (RdO.own .head))) ?_; rintro r26 _ ⟨rfl, rfl⟩
  refine JL.mem0 rfl (by apply OpM.storeN rfl rfl (by rw [bcells_length]; first | assumption | exact shaB_length _ _ | solve_by_elim) (bcells_one _); (case' hu => exact (.tail (.tail (.tail .head)))); (case' hs => exact spl_all (by first | (rw [bcells_length, List.length_replicate]; first | assumption | exact shaB_length _ _ | solve_by_elim) | (rw [bcells_length, bcells_length]; refine Eq.trans (b := 32) ?_ (Eq.symm ?_) <;> (first | assumption | exact shaB_length _ _ | solve_by_elim)) | (rw [bcells_length]; first | assumption | exact shaB_length _ _ | solve_by_elim))); done) ?_; rintro _ _ ⟨rfl, rfl⟩
  refine JL.nil ?_
  refine J.retC rfl rfl (by apply Cells.full; (with_reducible repeat (first | exact .head | apply Has.tail))) (by first | (rw [List.length_append, hdC_len (by first | assumption | exact shaB_length _ _ | solve_by_elim)]; rfl) | exact hdC_len (by first | assumption | exact shaB_length _ _ | solve_by_elim) | (rw [bcells_length]; first | assumption | exact shaB_length _ _ | solve_by_elim) | exact fc_length _ _ | exact fB_length _ _ | rfl) ?_
  exact ⟨_, ⟨by rw [cat_link]; rfl, rfl⟩, fun _ h => h.tail.tail.tail.tail.tail⟩
end Go.Proofs.F

-- seat f
namespace Go.Proofs.F
open Go Go.Gp Go.RowKit

instance : KeyT Tryd.prog 36 3 := ⟨by kernel_rfl, by decide, by kernel_rfl, by kernel_rfl⟩
instance : KeyT Tryd.prog 35 3 := ⟨by kernel_rfl, by decide, by kernel_rfl, by kernel_rfl⟩
instance : BytesA Tryd.prog 36 32 := ⟨5, Tryd.underlying36, Tryd.underlying5, by kernel_rfl, by kernel_rfl⟩
instance : BytesA Tryd.prog 35 32 := ⟨5, Tryd.underlying35, Tryd.underlying5, by kernel_rfl, by kernel_rfl⟩
instance : KeyT Tryd.prog 38 4 := ⟨by kernel_rfl, by decide, by kernel_rfl, by kernel_rfl⟩
theorem head_keys (h : List UInt8) (n : Int) (hl : h.length = 32) (hn : (Lit.int .i64 n).wf = true) : Tryd.prog.keyLits 4 38 (hdC h n) = some (blits h ++ [.int .i64 n]) := by
  have h26 : Tryd.prog.keyLits 3 36 (bcells h) = some (blits h) := BytesA.keys (P := Tryd.prog) (t := 36) inferInstance 1 hl
  have h3 : Tryd.prog.keyLits 3 3 [.int .i64 n] = some [.int .i64 n] := by
    unfold Program.keyLits
    rw [Tryd.underlying3]
    simp [hn]
  have c26 : Tryd.prog.cellsOf 36 = 32 := by kernel_rfl
  have c3 : Tryd.prog.cellsOf 3 = 1 := by kernel_rfl
  have c55 : Tryd.prog.cellsOf 38 = 33 := by kernel_rfl
  have e1 : (hdC h n).take 32 = bcells h := by rw [hdC, List.take_left' (by rw [bcells_length, hl])]
  have e2 : (hdC h n).drop 32 = [.int .i64 n] := by rw [hdC, List.drop_left' (by rw [bcells_length, hl])]
  unfold Program.keyLits
  rw [Tryd.underlying38]
  simp [hdC_len hl, c55, c26, c3, e1, e2, h26, h3]
instance : HeadT Tryd.prog 38 := ⟨head_keys⟩
/-- The fingerprint behind records. -/
def hsh (K : Ws) (h : List UInt8) (ls : List (List UInt8)) : List UInt8 := ls.foldl (fun h r => shaB K (linkT h r)) h
theorem hsh_len {K : Ws} {h : List UInt8} (hl : h.length = 32) : ∀ ls : List (List UInt8), (hsh K h ls).length = 32 := by
  intro ls
  induction ls generalizing h with
  | nil => exact hl
  | cons r ls ih => exact ih (shaB_length _ _)
theorem hsh_snoc (K : Ws) (h : List UInt8) (ls : List (List UInt8)) (r : List UInt8) : hsh K h (ls ++ [r]) = shaB K (linkT (hsh K h ls) r) := by
  rw [hsh, List.foldl_append]; rfl
theorem Next_ok2 {w0 : World} {F : List HProp} {h rc : List UInt8} {n : Int} {v : Value} {K : Ws} (hK : Tab w0 0 64 fun j => w32 (K j)) (hl : h.length = 32) (hrl : rc.length ≤ 80000) (h1 : -9223372036854775808 ≤ n) (h2 : n ≤ 9223372036854775806) (hr : RdO w0 F v rc.length (bcells rc)) :
    FnO Tryd.prog w0 40 [.agg (hdC h n).toArray, v] F (fun r l' => r = .agg (hdC (shaB K (linkT h rc)) (n + 1)).toArray ∧ l' = F) := by
  refine FnO.rdF (fun _ h => h) hr fun hr0 => ?_
  obtain ⟨va, vc, rfl⟩ := hr0.lit
  refine FnO.weak ?_
  refine FnO.intro (n := 13) Tryd.func40 rfl rfl rfl ?_
  refine J.seq ?_
  refine J.region ?_
  refine JL.mem rfl rfl (OpM.box rfl rfl) ?_; rintro _ _ ⟨b2, rfl, rfl⟩
  refine JL.mem rfl rfl OpM.alloc ?_; rintro _ _ ⟨b4, rfl, rfl⟩
  refine JL.nil ?_
  refine J.seq ?_
  refine J.regionD [1, 5] (by kernel_rfl) ?_
  refine DL.pure (i := 0) (by kernel_rfl) (by kernel_rfl) rfl rfl rfl (OpP.fieldAddr rfl) ?_
  refine DL.read (i := 1) (by kernel_rfl) (by kernel_rfl) rfl rfl rfl (fun _ h => h) (OpR.loadN rfl (Cells.hd0 (.tail .head) (by first | assumption | exact shaB_length _ _ | solve_by_elim)) (by rw [bcells_length]; exact (by first | assumption | exact shaB_length _ _ | solve_by_elim))) ?_
  refine DL.pure (i := 2) (by kernel_rfl) (by kernel_rfl) rfl rfl rfl (OpP.move rfl) ?_
  refine DL.pure (i := 4) (by kernel_rfl) (by kernel_rfl) rfl rfl rfl (OpP.fieldAddr rfl) ?_
  refine DL.read (i := 5) (by kernel_rfl) (by kernel_rfl) rfl rfl rfl (fun _ h => h) (OpR.load1 rfl (Cell.hd1 (.tail .head) (by first | assumption | exact shaB_length _ _ | solve_by_elim))) ?_
  refine DL.pure (i := 6) (by kernel_rfl) (by kernel_rfl) rfl rfl rfl (OpP.addI rfl rfl (by omega) (by omega)) ?_
  refine DL.only (i := 3) (by kernel_rfl) ?_
  refine DL1.stepK rfl rfl rfl (by exact OpW.call (first := []) (captured := []) inferInstance rfl rfl (Link_ok hK hl (by omega) (hr.conv fun _ h => Own.pick (pre := [_, _]) [] rfl h))) (by rintro _ _ ⟨rfl, rfl⟩ _ h; exact Own.pick (pre := [_, _]) [0, 1] rfl h) ?_; rintro r8 _ ⟨rfl, rfl⟩
  refine DL.pure (i := 7) (by kernel_rfl) (by kernel_rfl) rfl rfl rfl (OpP.buildHead (by rfl) rfl (by first | assumption | exact shaB_length _ _ | solve_by_elim)) ?_
  refine DL.only (i := 8) (by kernel_rfl) ?_
  refine DL1.stepF0 rfl rfl (by kernel_rfl) (OpM.w (by apply OpM.storeN rfl rfl (hdC_len (by first | assumption | exact shaB_length _ _ | solve_by_elim)) hdC_one; (case' hu => exact .head); (case' hs => exact spl_all (by first | (rw [hdC_len (by first | assumption | exact shaB_length _ _ | solve_by_elim), hdC_len (by first | assumption | exact shaB_length _ _ | solve_by_elim)]; done) | (rw [hdC_len (by first | assumption | exact shaB_length _ _ | solve_by_elim)]; rfl))); done)) ?_; rintro _ _ ⟨rfl, rfl⟩
  refine DL.done (by kernel_rfl) ?_
  refine J.retC rfl rfl (by apply Cells.full; (with_reducible repeat (first | exact .head | apply Has.tail))) (by first | (rw [List.length_append, hdC_len (by first | assumption | exact shaB_length _ _ | solve_by_elim)]; rfl) | exact hdC_len (by first | assumption | exact shaB_length _ _ | solve_by_elim) | (rw [bcells_length]; first | assumption | exact shaB_length _ _ | solve_by_elim) | exact fc_length _ _ | exact fB_length _ _ | rfl) ?_
  exact ⟨_, ⟨rfl, rfl⟩, fun _ h => h.tail.tail⟩
def h0 : List UInt8 := List.replicate 32 0
theorem h0_c : bcells h0 = List.replicate 32 (Value.int .u8 0) := by rw [h0, bcells_rep]; rfl
theorem h0_cells : hdC h0 0 = List.replicate 32 (Value.int .u8 0) ++ [Value.int .i64 0] := by rw [hdC, h0, bcells_rep]; rfl
set_option maxRecDepth 20000 in
theorem Hash_ok {w0 : World} {F : List HProp} {v : Value} {ps : List (Value × List UInt8)} {K : Ws} (hK : ∀ i, i < 64 → hexOk constS i (K i) = true) (hrl : ∀ p ∈ ps, p.2.length ≤ 80000) (hpl : ps.length ≤ 9223372036854775807) (hp : Parts w0 F v ps) :
    FnO Tryd.prog w0 22 [v] F (fun r l' => r = .agg (bcells (hsh K h0 (recs ps))).toArray ∧ l' = F) := by
  refine FnO.rdF (fun _ h => h) hp.rd fun hp0 => ?_
  obtain ⟨va, vc, rfl⟩ := hp0.lit
  refine FnO.weak ?_
  refine FnO.intro (n := 18) Tryd.func22 rfl rfl rfl ?_
  refine J.seq ?_
  refine J.region ?_
  refine JL.mem rfl rfl OpM.alloc ?_; rintro _ _ ⟨b2, rfl, rfl⟩
  refine JL.nil ?_
  refine J.seq ?_
  refine J.region ?_
  refine JL.mem rfl rfl OpM.alloc ?_; rintro _ _ ⟨b3, rfl, rfl⟩
  refine JL.nil ?_
  refine J.seq ?_
  refine J.seq ?_
  refine J.region ?_
  refine JL.pure rfl rfl (OpP.assign rfl) ?_
  refine JL.nil ?_
  refine J.block ?_
  refine J.loopI (fun i : Nat => ps.length - i) (fun i => i ≤ ps.length) (fun i => [(4, .int .i64 (i : Nat)), (0, .slice va ps.length vc), (2, .pointer (some ⟨b2, 0, none⟩)), (3, .pointer (some ⟨b3, 0, none⟩))])
    (fun i => row b3 35 (bcells (hsh K h0 (recs (ps.take i)))) :: row b2 35 (List.replicate 32 (.int .u8 0)) :: F) 0 (Nat.zero_le _) (by repeat (first | exact SubEnv.nil | refine SubEnv.cons (by first | rfl | exact congrArg (fun z => some (Value.int .i64 z)) (by omega) | (simp; done)) ?_)) (fun _ h => by show Own _ _ (row b3 35 (bcells h0) :: _); rw [h0_c]; exact h) (fun i hi back => ?_)
  dsimp only at hi back ⊢
  by_cases hlt : i < ps.length
  · obtain ⟨pa, pc, p, hpi, hpv, hpr⟩ := hp.at hlt
    have hct := recs_take hpi
    have hpl2 : p.length ≤ 80000 := hrl _ (List.mem_of_getElem? hpi)
    have hhl := hsh_len (K := K) (show h0.length = 32 by simp [h0]) (recs (ps.take i))
    have hsn := hsh_snoc K h0 (recs (ps.take i)) p
    rw [← hct] at hsn
    refine J.seq ?_
    refine J.seq ?_
    refine J.region ?_
    refine JL.pure rfl rfl (OpP.move rfl) ?_
    refine JL.pure rfl rfl (OpP.move rfl) ?_
    refine JL.pure rfl rfl (OpP.len rfl rfl) ?_
    refine JL.decT rfl rfl (OpP.lss rfl rfl) (by omega) ?_
    refine JL.nil ?_
    refine J.condT rfl ?_
    refine J.skip ?_
    refine J.seq ?_
    refine J.block ?_
    refine J.regionD [0, 4] (by kernel_rfl) ?_
    refine DL.read (i := 0) (by kernel_rfl) (by kernel_rfl) rfl rfl rfl (fun _ h => h) (OpR.loadN rfl (Cells.full .head) (by rw [bcells_length]; first | assumption | exact shaB_length _ _ | solve_by_elim)) ?_
    refine DL.pure (i := 1) (by kernel_rfl) (by kernel_rfl) rfl rfl rfl (OpP.move rfl) ?_
    refine DL.pure (i := 2) (by kernel_rfl) (by kernel_rfl) rfl rfl rfl (OpP.move rfl) ?_
    obtain ⟨gva, pva, qva, eva, kva, cva⟩ := hp0.pos (by omega); cases eva
    refine DL.pure (i := 3) (by kernel_rfl) (by kernel_rfl) rfl rfl rfl (OpP.indexAddr rfl rfl (by omega) (by omega)) ?_
    refine DL.read (i := 4) (by kernel_rfl) (by kernel_rfl) rfl rfl rfl (fun _ h => h) (OpR.load1 rfl (by apply Cells.cell cva (fun _ h => Own.pick (pre := [_, _]) [] rfl h); (case' hv => assumption); (case' ho => omega); done)) ?_
    refine DL.only (i := 5) (by kernel_rfl) ?_
    refine DL1.stepF rfl rfl rfl (by kernel_rfl) (by exact OpW.call (first := []) (captured := []) inferInstance rfl rfl (RefLink_ok hK (by assumption) hpl2 (hpr.conv fun _ h => Own.pick (pre := [_, _]) [] rfl h))) ?_; rintro r16 _ ⟨rfl, rfl⟩
    refine DL.only (i := 6) (by kernel_rfl) ?_
    refine DL1.stepF0 rfl rfl (by kernel_rfl) (OpM.w (by apply OpM.storeN rfl rfl (by rw [bcells_length]; first | assumption | exact shaB_length _ _ | solve_by_elim) (bcells_one _); (case' hu => exact .head); (case' hs => exact spl_all (by first | (rw [bcells_length, List.length_replicate]; first | assumption | exact shaB_length _ _ | solve_by_elim) | (rw [bcells_length, bcells_length]; refine Eq.trans (b := 32) ?_ (Eq.symm ?_) <;> (first | assumption | exact shaB_length _ _ | solve_by_elim)) | (rw [bcells_length]; first | assumption | exact shaB_length _ _ | solve_by_elim))); done)) ?_; rintro _ _ ⟨rfl, rfl⟩
    refine DL.done (by kernel_rfl) ?_
    refine J.inBlock ?_
    refine J.region ?_
    refine JL.pure rfl rfl (OpP.move rfl) ?_
    refine JL.pure rfl rfl (OpP.addI rfl rfl (by omega) (by omega)) ?_
    refine JL.pure rfl rfl (OpP.assign rfl) ?_
    refine JL.nil ?_
    refine back (i + 1) (by omega) (by omega) (by repeat (first | exact SubEnv.nil | refine SubEnv.cons (by first | rfl | exact congrArg (fun z => some (Value.int .i64 z)) (by omega) | (simp; done)) ?_)) (fun _ h => ?_)
    rw [hsn]
    exact h
  · have : i = ps.length := by omega
    subst this
    rw [List.take_length]
    have hhl := hsh_len (K := K) (show h0.length = 32 by simp [h0]) (recs ps)
    refine J.seq ?_
    refine J.seq ?_
    refine J.region ?_
    refine JL.pure rfl rfl (OpP.move rfl) ?_
    refine JL.pure rfl rfl (OpP.move rfl) ?_
    refine JL.pure rfl rfl (OpP.len rfl rfl) ?_
    refine JL.decF rfl rfl (OpP.lss rfl rfl) (by omega) ?_
    refine JL.nil ?_
    refine J.condF rfl ?_
    refine J.exit rfl ?_
    refine J.seq ?_
    refine J.region ?_
    refine JL.read rfl rfl (OpR.loadN rfl (Cells.full .head) (by rw [bcells_length]; first | assumption | exact shaB_length _ _ | solve_by_elim)) ?_
    refine JL.mem0 rfl (by apply OpM.storeN rfl rfl (by rw [bcells_length]; first | assumption | exact shaB_length _ _ | solve_by_elim) (bcells_one _); (case' hu => exact (.tail .head)); (case' hs => exact spl_all (by first | (rw [bcells_length, List.length_replicate]; first | assumption | exact shaB_length _ _ | solve_by_elim) | (rw [bcells_length, bcells_length]; refine Eq.trans (b := 32) ?_ (Eq.symm ?_) <;> (first | assumption | exact shaB_length _ _ | solve_by_elim)) | (rw [bcells_length]; first | assumption | exact shaB_length _ _ | solve_by_elim))); done) ?_; rintro _ _ ⟨rfl, rfl⟩
    refine JL.nil ?_
    refine J.retC rfl rfl (by apply Cells.full; (with_reducible repeat (first | exact .head | apply Has.tail))) (by first | (rw [List.length_append, hdC_len (by first | assumption | exact shaB_length _ _ | solve_by_elim)]; rfl) | exact hdC_len (by first | assumption | exact shaB_length _ _ | solve_by_elim) | (rw [bcells_length]; first | assumption | exact shaB_length _ _ | solve_by_elim) | exact fc_length _ _ | exact fB_length _ _ | rfl) ?_
    exact ⟨_, ⟨rfl, rfl⟩, fun _ h => h.tail.tail⟩
end Go.Proofs.F

-- seat f
namespace Go.Proofs.F
open Go Go.Gp Go.RowKit

theorem NextH_ok {w0 : World} {F : List HProp} {h rc : List UInt8} {n : Nat} {v : Value} {K : Ws} (hK : Tab w0 0 64 fun j => w32 (K j)) (hl : h.length = 32) (hrl : rc.length ≤ 80000) (h2 : n ≤ 9223372036854775806) (hr : RdO w0 F v rc.length (bcells rc)) :
    FnO Tryd.prog w0 40 [.agg (hdC h (n : Nat)).toArray, v] F (fun r l' => r = .agg (hdC (shaB K (linkT h rc)) ((n + 1 : Nat) : Int)).toArray ∧ l' = F) := by
  have h := Next_ok2 hK hl hrl (n := (n : Int)) (by omega) (by omega) hr
  rw [show ((n + 1 : Nat) : Int) = (n : Int) + 1 by omega]
  exact h
end Go.Proofs.F

-- seat f
namespace Go.Proofs.F
open Go Go.Gp Go.RowKit

/-! Slices of bytes that are owned, in an owned slice. -/
def ownAll : List (Value × List UInt8) → HProp
  | [] => emp
  | q :: qs => star (own 5 1 q.1 q.2.length (bcells q.2)) (ownAll qs)
def ownP (r : Value) (qs : List (Value × List UInt8)) : HProp := star (own 26 1 r qs.length (qs.map (·.1))) (ownAll qs.reverse)
theorem ownAll_at {w0 w : World} {l : List HProp} {p : Value × List UInt8} : ∀ {rs : List (Value × List UInt8)}, p ∈ rs → Own w0 w (ownAll rs :: l) → Own w0 w [own 5 1 p.1 p.2.length (bcells p.2)]
  | [], h, _ => nomatch h
  | q :: rs, h, ho => by
    have ho := Own.star_out ho
    rcases List.mem_cons.1 h with rfl | h
    · exact ho.head
    · exact ownAll_at h ho.tail
theorem Parts.ofOwn {w0 : World} {F : List HProp} {r : Value} {qs : List (Value × List UInt8)} (hq : ∀ q ∈ qs, ∃ a c, q.1 = .slice a q.2.length c) : Parts w0 (ownP r qs :: F) r qs :=
  ⟨(RdO.own .head).conv fun _ h => (Own.star_out h).head, fun p hp => ⟨hq p hp, (RdO.own .head).conv fun _ h => ownAll_at (List.mem_reverse.2 hp) (Own.star_out h).tail⟩⟩
theorem Bclone_ok {w0 : World} {F : List HProp} {v : Value} {l : List UInt8} (hl : l.length ≤ 1000000) (hr : RdO w0 F v l.length (bcells l)) :
    FnO Tryd.prog w0 31 [v] F (fun r l' => (∃ a c, r = .slice a l.length c) ∧ l' = own 5 1 r l.length (bcells l) :: F) := by
  refine FnO.rdF (fun _ h => h) hr fun hr1 => ?_
  obtain ⟨a1, c1, rfl⟩ := hr1.lit
  have hbl : (bcells l).length = l.length * 1 := by rw [bcells_length]; omega
  refine FnO.weak ?_
  cases a1 with
  | none =>
    have h0 : l = [] := by
      rcases hr1 with ⟨a, c, h1, h2, _⟩ | ⟨b, o, c, h1, _⟩
      · exact List.eq_nil_of_length_eq_zero h2
      · cases h1
    subst h0
    refine FnO.intro (n := 8) Tryd.func31 rfl rfl rfl ?_
    refine J.seq ?_
    refine J.region ?_
    refine JL.pure rfl rfl (OpP.assign rfl) ?_
    refine JL.nil ?_
    refine J.seq ?_
    refine J.seq ?_
    refine J.region ?_
    refine JL.pure rfl rfl (OpP.move rfl) ?_
    refine JL.pure rfl rfl (OpP.eqSlNil rfl rfl) ?_
    refine JL.nil ?_
    refine J.condT rfl ?_
    refine J.seq ?_
    refine J.region ?_
    refine JL.pure rfl rfl (OpP.assign rfl) ?_
    refine JL.nil ?_
    refine J.ret1 rfl rfl ?_
    exact ⟨_, ⟨⟨none, 0, rfl⟩, rfl⟩, fun _ h => h.own_nil⟩
  | some a1 =>
    refine FnO.intro (n := 8) Tryd.func31 rfl rfl rfl ?_
    refine J.seq ?_
    refine J.region ?_
    refine JL.pure rfl rfl (OpP.assign rfl) ?_
    refine JL.nil ?_
    refine J.seq ?_
    refine J.seq ?_
    refine J.region ?_
    refine JL.pure rfl rfl (OpP.move rfl) ?_
    refine JL.pure rfl rfl (OpP.eqSlNil rfl rfl) ?_
    refine JL.nil ?_
    refine J.condF rfl ?_
    refine J.skip ?_
    refine J.seq ?_
    refine J.region ?_
    refine JL.mem rfl rfl (by apply OpM.buildSlice (by rfl) rfl (by rfl); (repeat (first | exact Fills.nil | (apply Fills.cons rfl rfl rfl; (case' hs => ((repeat (first | exact Spl.nil | apply Spl.here | apply Spl.there)); done)))))) ?_; rintro _ _ ⟨b5, rfl, rfl⟩
    refine JL.pure rfl rfl (OpP.move rfl) ?_
    refine JL.ownRow (n := 0) (sz := 1) (by decide) rfl ?_
    refine JL.mem rfl rfl (OpM.appendH0 rfl rfl (.inl ⟨_, Sl.und inferInstance⟩) (by rfl) rfl rfl (RdO.src (hr.conv fun _ h => Own.pick (pre := [_]) [] rfl h) (by first | assumption | exact fc_length _ _ | (simp; done) | (simp; omega))) (by first | exact bcells_one _ | exact scells_one _ | exact icells_one _ | assumption | exact fc_one fun _ => rfl) (by simp only [maxLen]; omega) (by omega)) ?_; rintro _ _ ⟨⟨a7, c7, rfl⟩, rfl⟩
    refine JL.pure rfl rfl (OpP.assign rfl) ?_
    refine JL.nil ?_
    refine J.ret1 rfl rfl ?_
    exact ⟨_, ⟨⟨_, _, rfl⟩, rfl⟩, fun _ h => h⟩
end Go.Proofs.F
