/- A text of the proof of a statement about the given program: its part BRef1. No person has read it. -/
import Derived.Test.YtecnolmpdgfnfaaDoorBSha
import Derived.Test.YtecnolmpdgfnfaaDoorJ24
import Derived.Test.YtecnolmpdgfnfaaDoorJ24
-- seat b
namespace Go.Proofs.B
open Go Go.Gp Go.RowKit

/-! The reference's words: 32 truths. -/
theorem upd_bit {G D : Nat → Bool} {i : Nat} {c : Bool} (h : c = G i) : fc 32 (upd (fun j => Value.bool (if j < i then G j else D j)) i (.bool c)) = fc 32 (fun j => Value.bool (if j < i + 1 then G j else D j)) := by
  refine fc_congr fun j _ => ?_
  unfold upd
  by_cases hj : j = i
  · subst hj; rw [if_pos rfl, if_pos (by omega), h]
  · rw [if_neg hj]
    dsimp only
    by_cases h2 : j < i
    · rw [if_pos h2, if_pos (by omega)]
    · rw [if_neg h2, if_neg (by omega)]
theorem keep_bit {G D : Nat → Bool} {i : Nat} (h : G i = D i) : fc 32 (fun j => Value.bool (if j < i then G j else D j)) = fc 32 (fun j => Value.bool (if j < i + 1 then G j else D j)) := by
  refine fc_congr fun j _ => ?_
  by_cases hj : j = i
  · subst hj; rw [if_neg (by omega), if_pos (by omega), h]
  · by_cases h2 : j < i
    · rw [if_pos h2, if_pos (by omega)]
    · rw [if_neg h2, if_neg (by omega)]
theorem bit_full {G D : Nat → Bool} {x : BitVec 32} (h : ∀ j, j < 32 → G j = x.getLsbD j) : fc 32 (fun j => Value.bool (if j < 32 then G j else D j)) = fc 32 (bitV x) :=
  fc_congr fun j hj => by rw [if_pos hj, h j hj]
theorem bit_zero {G D : Nat → Bool} (h : ∀ j, D j = false) : List.replicate 32 (Value.bool false) = fc 32 (fun j => Value.bool (if j < 0 then G j else D j)) :=
  fc_rep fun j _ => by rw [if_neg (by omega), h]

theorem Odd_ok {w0 : World} {F : List HProp} {x y z : BitVec 32} :
    FnO Tryd.prog w0 46 [.agg (fc 32 (bitV x)).toArray, .agg (fc 32 (bitV y)).toArray, .agg (fc 32 (bitV z)).toArray] F (fun v l' => v = .agg (fc 32 (bitV (x ^^^ y ^^^ z))).toArray ∧ l' = F) := by
  refine FnO.weak ?_
  refine FnO.intro (n := 27) Tryd.func46 rfl rfl rfl ?_
  refine J.seq ?_
  refine J.region ?_
  refine JL.mem rfl rfl (OpM.box rfl rfl) ?_; rintro _ _ ⟨b3, rfl, rfl⟩
  refine JL.mem rfl rfl (OpM.box rfl rfl) ?_; rintro _ _ ⟨b4, rfl, rfl⟩
  refine JL.mem rfl rfl (OpM.box rfl rfl) ?_; rintro _ _ ⟨b5, rfl, rfl⟩
  refine JL.mem rfl rfl OpM.alloc ?_; rintro _ _ ⟨b6, rfl, rfl⟩
  refine JL.nil ?_
  refine J.seq ?_
  refine J.region ?_
  refine JL.mem rfl rfl OpM.alloc ?_; rintro _ _ ⟨b7, rfl, rfl⟩
  refine JL.nil ?_
  refine J.seq ?_
  refine J.seq ?_
  refine J.region ?_
  refine JL.pure rfl rfl (OpP.assign rfl) ?_
  refine JL.nil ?_
  refine J.block ?_
  refine J.loopI (fun i : Nat => 32 - i) (fun i => i ≤ 32) (fun i => [(8, .int .i64 (i : Nat)), (3, .pointer (some ⟨b3, 0, none⟩)), (4, .pointer (some ⟨b4, 0, none⟩)), (5, .pointer (some ⟨b5, 0, none⟩)), (6, .pointer (some ⟨b6, 0, none⟩)), (7, .pointer (some ⟨b7, 0, none⟩))])
    (fun i => row b7 73 (fc 32 fun j => .bool (if j < i then (x ^^^ y ^^^ z).getLsbD j else false)) :: row b6 73 (List.replicate 32 (.bool false)) :: row b5 73 (fc 32 (bitV z)) :: row b4 73 (fc 32 (bitV y)) :: row b3 73 (fc 32 (bitV x)) :: F) 0 (Nat.zero_le _) (by repeat (first | exact SubEnv.nil | refine SubEnv.cons (by first | rfl | exact congrArg (fun z => some (Value.int .i64 z)) (by omega) | (simp; done)) ?_)) (fun _ h => by dsimp only; rw [← bit_zero (D := fun _ => false) (fun _ => rfl)]; exact h) (fun i hi back => ?_)
  dsimp only at hi back ⊢
  by_cases hlt : i < 32
  · refine J.seq ?_
    refine J.seq ?_
    refine J.region ?_
    refine JL.pure rfl rfl (OpP.move rfl) ?_
    refine JL.decT rfl rfl (OpP.lss rfl rfl) (by omega) ?_
    refine JL.nil ?_
    refine J.condT rfl ?_
    refine J.skip ?_
    refine J.seq ?_
    refine J.block ?_
    refine J.regionD [3, 6, 10] (by kernel_rfl) ?_
    refine DL.pure (i := 0) (by kernel_rfl) (by kernel_rfl) rfl rfl rfl (OpP.move rfl) ?_
    refine DL.pure (i := 1) (by kernel_rfl) (by kernel_rfl) rfl rfl rfl (OpP.move rfl) ?_
    refine DL.pure (i := 2) (by kernel_rfl) (by kernel_rfl) rfl rfl rfl (OpP.indexAddrN rfl rfl (by omega)) ?_
    refine DL.read (i := 3) (by kernel_rfl) (by kernel_rfl) rfl rfl rfl (fun _ h => h) (OpR.load1 rfl (cell_fc (.tail (.tail (.tail (.tail .head)))) rfl (by omega))) ?_
    refine DL.pure (i := 4) (by kernel_rfl) (by kernel_rfl) rfl rfl rfl (OpP.move rfl) ?_
    refine DL.pure (i := 5) (by kernel_rfl) (by kernel_rfl) rfl rfl rfl (OpP.indexAddrN rfl rfl (by omega)) ?_
    refine DL.read (i := 6) (by kernel_rfl) (by kernel_rfl) rfl rfl rfl (fun _ h => h) (OpR.load1 rfl (cell_fc (.tail (.tail (.tail .head))) rfl (by omega))) ?_
    refine DL.dec (i := 7) (by kernel_rfl) (by kernel_rfl) rfl rfl rfl (OpP.neBool rfl rfl) (fun h20 => ?_) (fun h20 => ?_)
    focus
      refine DL.pure (i := 8) (by kernel_rfl) (by kernel_rfl) rfl rfl rfl (OpP.move rfl) ?_
      refine DL.pure (i := 9) (by kernel_rfl) (by kernel_rfl) rfl rfl rfl (OpP.indexAddrN rfl rfl (by omega)) ?_
      refine DL.read (i := 10) (by kernel_rfl) (by kernel_rfl) rfl rfl rfl (fun _ h => h) (OpR.load1 rfl (cell_fc (.tail (.tail .head)) rfl (by omega))) ?_
      refine DL.dec (i := 11) (by kernel_rfl) (by kernel_rfl) rfl rfl rfl (OpP.neBool rfl rfl) (fun h24 => ?_) (fun h24 => ?_)
      focus
        refine DL.pure (i := 12) (by kernel_rfl) (by kernel_rfl) rfl rfl rfl (OpP.indexAddrN rfl rfl (by omega)) ?_
        refine DL.only (i := 13) (by kernel_rfl) ?_
        refine DL1.stepF0 rfl rfl (by kernel_rfl) (OpM.w (by apply OpM.store1 rfl rfl rfl; (case' hu => exact .head); (case' hs => exact spl_fc rfl (by omega)); done)) ?_; rintro _ _ ⟨rfl, rfl⟩
        refine DL.done (by kernel_rfl) ?_
        refine J.inBlock ?_
        refine J.region ?_
        refine JL.pure rfl rfl (OpP.move rfl) ?_
        refine JL.pure rfl rfl (OpP.addI rfl rfl (by omega) (by omega)) ?_
        refine JL.pure rfl rfl (OpP.assign rfl) ?_
        refine JL.nil ?_
      rotate_left 1
      focus
        refine DL.pure (i := 12) (by kernel_rfl) (by kernel_rfl) rfl rfl rfl (OpP.indexAddrN rfl rfl (by omega)) ?_
        refine DL.only (i := 13) (by kernel_rfl) ?_
        refine DL1.stepF0 rfl rfl (by kernel_rfl) (OpM.w (by apply OpM.store1 rfl rfl rfl; (case' hu => exact .head); (case' hs => exact spl_fc rfl (by omega)); done)) ?_; rintro _ _ ⟨rfl, rfl⟩
        refine DL.done (by kernel_rfl) ?_
        refine J.inBlock ?_
        refine J.region ?_
        refine JL.pure rfl rfl (OpP.move rfl) ?_
        refine JL.pure rfl rfl (OpP.addI rfl rfl (by omega) (by omega)) ?_
        refine JL.pure rfl rfl (OpP.assign rfl) ?_
        refine JL.nil ?_
      rotate_left 1
    rotate_left 2
    focus
      refine DL.pure (i := 8) (by kernel_rfl) (by kernel_rfl) rfl rfl rfl (OpP.move rfl) ?_
      refine DL.pure (i := 9) (by kernel_rfl) (by kernel_rfl) rfl rfl rfl (OpP.indexAddrN rfl rfl (by omega)) ?_
      refine DL.read (i := 10) (by kernel_rfl) (by kernel_rfl) rfl rfl rfl (fun _ h => h) (OpR.load1 rfl (cell_fc (.tail (.tail .head)) rfl (by omega))) ?_
      refine DL.dec (i := 11) (by kernel_rfl) (by kernel_rfl) rfl rfl rfl (OpP.neBool rfl rfl) (fun h24 => ?_) (fun h24 => ?_)
      focus
        refine DL.pure (i := 12) (by kernel_rfl) (by kernel_rfl) rfl rfl rfl (OpP.indexAddrN rfl rfl (by omega)) ?_
        refine DL.only (i := 13) (by kernel_rfl) ?_
        refine DL1.stepF0 rfl rfl (by kernel_rfl) (OpM.w (by apply OpM.store1 rfl rfl rfl; (case' hu => exact .head); (case' hs => exact spl_fc rfl (by omega)); done)) ?_; rintro _ _ ⟨rfl, rfl⟩
        refine DL.done (by kernel_rfl) ?_
        refine J.inBlock ?_
        refine J.region ?_
        refine JL.pure rfl rfl (OpP.move rfl) ?_
        refine JL.pure rfl rfl (OpP.addI rfl rfl (by omega) (by omega)) ?_
        refine JL.pure rfl rfl (OpP.assign rfl) ?_
        refine JL.nil ?_
      rotate_left 1
      focus
        refine DL.pure (i := 12) (by kernel_rfl) (by kernel_rfl) rfl rfl rfl (OpP.indexAddrN rfl rfl (by omega)) ?_
        refine DL.only (i := 13) (by kernel_rfl) ?_
        refine DL1.stepF0 rfl rfl (by kernel_rfl) (OpM.w (by apply OpM.store1 rfl rfl rfl; (case' hu => exact .head); (case' hs => exact spl_fc rfl (by omega)); done)) ?_; rintro _ _ ⟨rfl, rfl⟩
        refine DL.done (by kernel_rfl) ?_
        refine J.inBlock ?_
        refine J.region ?_
        refine JL.pure rfl rfl (OpP.move rfl) ?_
        refine JL.pure rfl rfl (OpP.addI rfl rfl (by omega) (by omega)) ?_
        refine JL.pure rfl rfl (OpP.assign rfl) ?_
        refine JL.nil ?_
      rotate_left 1
    rotate_left 2
    all_goals
      refine back (i + 1) (by omega) (by omega) (by repeat (first | exact SubEnv.nil | refine SubEnv.cons (by first | rfl | exact congrArg (fun z => some (Value.int .i64 z)) (by omega) | (simp; done)) ?_)) (fun _ h => ?_)
      rw [upd_bit] at h
      · exact h
      · revert h20 h24
        rw [BitVec.getLsbD_xor, BitVec.getLsbD_xor]
        cases x.getLsbD i <;> cases y.getLsbD i <;> cases z.getLsbD i <;> simp
  · have : i = 32 := by omega
    subst this
    rw [bit_full (D := fun _ => false) (x := x ^^^ y ^^^ z) fun _ _ => rfl]
    refine J.seq ?_
    refine J.seq ?_
    refine J.region ?_
    refine JL.pure rfl rfl (OpP.move rfl) ?_
    refine JL.decF rfl rfl (OpP.lss rfl rfl) (by omega) ?_
    refine JL.nil ?_
    refine J.condF rfl ?_
    refine J.exit rfl ?_
    refine J.seq ?_
    refine J.region ?_
    refine JL.read rfl rfl (OpR.loadN rfl (Cells.full .head) rfl) ?_
    refine JL.mem0 rfl (by apply OpM.storeN rfl rfl (fc_length _ _) (fc_one fun _ => rfl); (case' hu => exact (.tail .head)); (case' hs => exact spl_all (by rfl)); done) ?_; rintro _ _ ⟨rfl, rfl⟩
    refine JL.nil ?_
    refine J.retC rfl rfl (by apply Cells.full; (with_reducible repeat (first | exact .head | apply Has.tail))) (by rfl) ?_
    exact ⟨_, ⟨rfl, rfl⟩, fun _ h => h.tail.tail.tail.tail.tail⟩

/-- A bit of a word turned right, or moved. -/
theorem rotr_bit (x : BitVec 32) {n j : Nat} (h0 : 0 < n) (h1 : n < 32) (hj : j < 32) : (rotr x n).getLsbD j = if j + n < 32 then x.getLsbD (j + n) else x.getLsbD (j + n - 32) := by
  rw [rotr, BitVec.getLsbD_or, BitVec.getLsbD_shiftLeft, BitVec.getLsbD_ushiftRight]
  by_cases h : j + n < 32
  · rw [if_pos h]
    have : j < 32 - n := by omega
    simp [this, Nat.add_comm]
  · rw [if_neg h]
    have e : ¬ j < 32 - n := by omega
    have e2 : x.getLsbD (n + j) = false := BitVec.getLsbD_of_ge _ _ (by omega)
    simp [e, e2, hj]
    congr 1
    omega
def rightW (x : BitVec 32) (n : Nat) (r : Bool) : BitVec 32 := if r then rotr x n else x >>> n
theorem Right_ok {w0 : World} {F : List HProp} {x : BitVec 32} {n : Nat} {r : Bool} (h0 : 0 < n) (h1 : n < 32) :
    FnO Tryd.prog w0 47 [.agg (fc 32 (bitV x)).toArray, .int .i64 (n : Nat), .bool r] F (fun v l' => v = .agg (fc 32 (bitV (rightW x n r))).toArray ∧ l' = F) := by
  refine FnO.weak ?_
  refine FnO.intro (n := 34) Tryd.func47 rfl rfl rfl ?_
  refine J.seq ?_
  refine J.region ?_
  refine JL.mem rfl rfl (OpM.box rfl rfl) ?_; rintro _ _ ⟨b3, rfl, rfl⟩
  refine JL.mem rfl rfl OpM.alloc ?_; rintro _ _ ⟨b6, rfl, rfl⟩
  refine JL.nil ?_
  refine J.seq ?_
  refine J.region ?_
  refine JL.mem rfl rfl OpM.alloc ?_; rintro _ _ ⟨b7, rfl, rfl⟩
  refine JL.nil ?_
  refine J.seq ?_
  refine J.seq ?_
  refine J.region ?_
  refine JL.pure rfl rfl (OpP.assign rfl) ?_
  refine JL.nil ?_
  refine J.block ?_
  refine J.loopI (fun i : Nat => 32 - i) (fun i => i ≤ 32) (fun i => [(8, .int .i64 (i : Nat)), (1, .int .i64 (n : Nat)), (2, .bool r), (3, .pointer (some ⟨b3, 0, none⟩)), (6, .pointer (some ⟨b6, 0, none⟩)), (7, .pointer (some ⟨b7, 0, none⟩))])
    (fun i => row b7 73 (fc 32 fun j => .bool (if j < i then (rightW x n r).getLsbD j else false)) :: row b6 73 (List.replicate 32 (.bool false)) :: row b3 73 (fc 32 (bitV x)) :: F) 0 (Nat.zero_le _) (by repeat (first | exact SubEnv.nil | refine SubEnv.cons (by first | rfl | exact congrArg (fun z => some (Value.int .i64 z)) (by omega) | (simp; done)) ?_)) (fun _ h => by dsimp only; rw [← bit_zero (D := fun _ => false) (fun _ => rfl)]; exact h) (fun i hi back => ?_)
  dsimp only at hi back ⊢
  by_cases hlt : i < 32
  · refine J.seq ?_
    refine J.seq ?_
    refine J.region ?_
    refine JL.pure rfl rfl (OpP.move rfl) ?_
    refine JL.decT rfl rfl (OpP.lss rfl rfl) (by omega) ?_
    refine JL.nil ?_
    refine J.condT rfl ?_
    refine J.skip ?_
    refine J.seq ?_
    refine J.block ?_
    refine J.seq ?_
    refine J.region ?_
    refine JL.pure rfl rfl (OpP.move rfl) ?_
    refine JL.pure rfl rfl (OpP.move rfl) ?_
    refine JL.pure rfl rfl (OpP.addI rfl rfl (by omega) (by omega)) ?_
    refine JL.dec rfl rfl (OpP.lss rfl rfl) (fun h16 => ?_) (fun h16 => ?_)
    focus
      refine JL.nil ?_
      refine J.condT rfl ?_
      refine J.region ?_
      refine JL.pure rfl rfl (OpP.move rfl) ?_
      refine JL.pure rfl rfl (OpP.move rfl) ?_
      refine JL.pure rfl rfl (OpP.move rfl) ?_
      refine JL.pure rfl rfl (OpP.addI rfl rfl (by omega) (by omega)) ?_
      refine JL.pure rfl rfl (OpP.indexAddrN rfl rfl (by omega)) ?_
      refine JL.read rfl rfl (OpR.load1 rfl (cell_fc (.tail (.tail .head)) rfl (by omega))) ?_
      refine JL.pure rfl rfl (OpP.indexAddrN rfl rfl (by omega)) ?_
      refine JL.mem0 rfl (by apply OpM.store1 rfl rfl rfl; (case' hu => exact .head); (case' hs => exact spl_fc rfl (by omega)); done) ?_; rintro _ _ ⟨rfl, rfl⟩
      refine JL.nil ?_
      refine J.inBlock ?_
      refine J.region ?_
      refine JL.pure rfl rfl (OpP.move rfl) ?_
      refine JL.pure rfl rfl (OpP.addI rfl rfl (by omega) (by omega)) ?_
      refine JL.pure rfl rfl (OpP.assign rfl) ?_
      refine JL.nil ?_
    rotate_left 1
    focus
      refine JL.nil ?_
      refine J.condF rfl ?_
      refine J.seq ?_
      refine J.region ?_
      refine JL.pure rfl rfl (OpP.move rfl) ?_
      refine JL.nil ?_
      refine J.splitAt 24 rfl (fun h24 => ?_) (fun h24 => ?_)
      focus
        refine J.condT rfl ?_
        refine J.region ?_
        refine JL.pure rfl rfl (OpP.move rfl) ?_
        refine JL.pure rfl rfl (OpP.move rfl) ?_
        refine JL.pure rfl rfl (OpP.move rfl) ?_
        refine JL.pure rfl rfl (OpP.addI rfl rfl (by omega) (by omega)) ?_
        refine JL.pure rfl rfl (OpP.subI rfl rfl (by omega) (by omega)) ?_
        refine JL.pure rfl rfl (OpP.indexAddrF rfl rfl (by omega) (by omega)) ?_
        refine JL.read rfl rfl (OpR.load1 rfl (cell_fc (.tail (.tail .head)) rfl (by omega))) ?_
        refine JL.pure rfl rfl (OpP.indexAddrN rfl rfl (by omega)) ?_
        refine JL.mem0 rfl (by apply OpM.store1 rfl rfl rfl; (case' hu => exact .head); (case' hs => exact spl_fc rfl (by omega)); done) ?_; rintro _ _ ⟨rfl, rfl⟩
        refine JL.nil ?_
        refine J.inBlock ?_
        refine J.region ?_
        refine JL.pure rfl rfl (OpP.move rfl) ?_
        refine JL.pure rfl rfl (OpP.addI rfl rfl (by omega) (by omega)) ?_
        refine JL.pure rfl rfl (OpP.assign rfl) ?_
        refine JL.nil ?_
      rotate_left 1
      focus
        refine J.condF rfl ?_
        refine J.skip ?_
        refine J.inBlock ?_
        refine J.region ?_
        refine JL.pure rfl rfl (OpP.move rfl) ?_
        refine JL.pure rfl rfl (OpP.addI rfl rfl (by omega) (by omega)) ?_
        refine JL.pure rfl rfl (OpP.assign rfl) ?_
        refine JL.nil ?_
      rotate_left 1
    rotate_left 2
    · refine back (i + 1) (by omega) (by omega) (by repeat (first | exact SubEnv.nil | refine SubEnv.cons (by first | rfl | exact congrArg (fun z => some (Value.int .i64 z)) (by omega) | (simp; done)) ?_)) (fun _ h => ?_)
      rw [upd_bit] at h
      · exact h
      · rw [rightW]
        cases r with
        | true => rw [if_pos rfl, rotr_bit x h0 h1 hlt, if_pos (by omega)]
        | false => rw [if_neg (by decide), BitVec.getLsbD_ushiftRight, Nat.add_comm]
    · refine back (i + 1) (by omega) (by omega) (by repeat (first | exact SubEnv.nil | refine SubEnv.cons (by first | rfl | exact congrArg (fun z => some (Value.int .i64 z)) (by omega) | (simp; done)) ?_)) (fun _ h => ?_)
      rw [show ((i : Int) + (n : Int) - 32).toNat = i + n - 32 by omega, upd_bit] at h
      · exact h
      · rw [rightW, if_pos (by assumption), rotr_bit x h0 h1 hlt, if_neg (by omega)]
    · refine back (i + 1) (by omega) (by omega) (by repeat (first | exact SubEnv.nil | refine SubEnv.cons (by first | rfl | exact congrArg (fun z => some (Value.int .i64 z)) (by omega) | (simp; done)) ?_)) (fun _ h => ?_)
      rw [keep_bit] at h
      · exact h
      · have hr : r = false := by assumption
        subst hr
        rw [rightW, if_neg (by decide), BitVec.getLsbD_ushiftRight, BitVec.getLsbD_of_ge _ _ (by omega)]
  · have : i = 32 := by omega
    subst this
    rw [bit_full (D := fun _ => false) (x := rightW x n r) fun _ _ => rfl]
    refine J.seq ?_
    refine J.seq ?_
    refine J.region ?_
    refine JL.pure rfl rfl (OpP.move rfl) ?_
    refine JL.decF rfl rfl (OpP.lss rfl rfl) (by omega) ?_
    refine JL.nil ?_
    refine J.condF rfl ?_
    refine J.exit rfl ?_
    refine J.seq ?_
    refine J.region ?_
    refine JL.read rfl rfl (OpR.loadN rfl (Cells.full .head) rfl) ?_
    refine JL.mem0 rfl (by apply OpM.storeN rfl rfl (fc_length _ _) (fc_one fun _ => rfl); (case' hu => exact (.tail .head)); (case' hs => exact spl_all (by rfl)); done) ?_; rintro _ _ ⟨rfl, rfl⟩
    refine JL.nil ?_
    refine J.retC rfl rfl (by apply Cells.full; (with_reducible repeat (first | exact .head | apply Has.tail))) (by rfl) ?_
    exact ⟨_, ⟨rfl, rfl⟩, fun _ h => h.tail.tail.tail⟩
theorem two_bits (a b c : Bool) : (decide (((if a = true then 1 else 0) + (if b = true then 1 else 0) + (if c = true then 1 else 0) : Int) % 2 = 1)) = (a ^^ (b ^^ c)) := by
  cases a <;> cases b <;> cases c <;> rfl
theorem Plus_ok {w0 : World} {F : List HProp} {x y : BitVec 32} :
    FnO Tryd.prog w0 48 [.agg (fc 32 (bitV x)).toArray, .agg (fc 32 (bitV y)).toArray] F (fun v l' => v = .agg (fc 32 (bitV (x + y))).toArray ∧ l' = F) := by
  refine FnO.weak ?_
  refine FnO.intro (n := 34) Tryd.func48 rfl rfl rfl ?_
  refine J.seq ?_
  refine J.region ?_
  refine JL.mem rfl rfl (OpM.box rfl rfl) ?_; rintro _ _ ⟨b2, rfl, rfl⟩
  refine JL.mem rfl rfl (OpM.box rfl rfl) ?_; rintro _ _ ⟨b3, rfl, rfl⟩
  refine JL.mem rfl rfl OpM.alloc ?_; rintro _ _ ⟨b4, rfl, rfl⟩
  refine JL.nil ?_
  refine J.seq ?_
  refine J.region ?_
  refine JL.mem rfl rfl OpM.alloc ?_; rintro _ _ ⟨b5, rfl, rfl⟩
  refine JL.nil ?_
  refine J.seq ?_
  refine J.region ?_
  refine JL.pure rfl rfl (OpP.assign rfl) ?_
  refine JL.nil ?_
  refine J.seq ?_
  refine J.seq ?_
  refine J.region ?_
  refine JL.pure rfl rfl (OpP.assign rfl) ?_
  refine JL.nil ?_
  refine J.block ?_
  refine J.loopI (fun i : Nat => 32 - i) (fun i => i ≤ 32) (fun i => [(7, .int .i64 (i : Nat)), (6, .bool (BitVec.carry i x y false)), (2, .pointer (some ⟨b2, 0, none⟩)), (3, .pointer (some ⟨b3, 0, none⟩)), (4, .pointer (some ⟨b4, 0, none⟩)), (5, .pointer (some ⟨b5, 0, none⟩))])
    (fun i => row b5 73 (fc 32 fun j => .bool (if j < i then (x + y).getLsbD j else false)) :: row b4 73 (List.replicate 32 (.bool false)) :: row b3 73 (fc 32 (bitV y)) :: row b2 73 (fc 32 (bitV x)) :: F) 0 (Nat.zero_le _) (by rw [BitVec.carry_zero]; exact (by repeat (first | exact SubEnv.nil | refine SubEnv.cons (by first | rfl | exact congrArg (fun z => some (Value.int .i64 z)) (by omega) | (simp; done)) ?_))) (fun _ h => by dsimp only; rw [← bit_zero (D := fun _ => false) (fun _ => rfl)]; exact h) (fun i hi back => ?_)
  dsimp only at hi back ⊢
  by_cases hlt : i < 32
  · have hs := BitVec.getLsbD_add hlt x y
    have hc := BitVec.carry_succ i x y false
    generalize ha : x.getLsbD i = a at hs hc
    generalize hb : y.getLsbD i = b at hs hc
    generalize BitVec.carry i x y false = c at hs hc ⊢
    refine J.seq ?_
    refine J.seq ?_
    refine J.region ?_
    refine JL.pure rfl rfl (OpP.move rfl) ?_
    refine JL.decT rfl rfl (OpP.lss rfl rfl) (by omega) ?_
    refine JL.nil ?_
    refine J.condT rfl ?_
    refine J.skip ?_
    refine J.seq ?_
    refine J.block ?_
    refine J.seq ?_
    refine J.region ?_
    refine JL.pure rfl rfl (OpP.assign rfl) ?_
    refine JL.nil ?_
    refine J.seq ?_
    refine J.seq ?_
    refine J.region ?_
    refine JL.pure rfl rfl (OpP.move rfl) ?_
    refine JL.pure rfl rfl (OpP.indexAddrN rfl rfl (by omega)) ?_
    refine JL.read rfl rfl (OpR.load1 rfl (cell_fc (.tail (.tail (.tail .head))) rfl (by omega))) ?_
    refine JL.nil ?_
    refine J.splitAt 15 rfl (fun h15 => ?_) (fun h15 => ?_)
    focus
      refine J.condT rfl ?_
      refine J.region ?_
      refine JL.pure rfl rfl (OpP.move rfl) ?_
      refine JL.pure rfl rfl (OpP.addI rfl rfl (by omega) (by omega)) ?_
      refine JL.pure rfl rfl (OpP.assign rfl) ?_
      refine JL.nil ?_
      refine J.seq ?_
      refine J.seq ?_
      refine J.region ?_
      refine JL.pure rfl rfl (OpP.move rfl) ?_
      refine JL.pure rfl rfl (OpP.indexAddrN rfl rfl (by omega)) ?_
      refine JL.read rfl rfl (OpR.load1 rfl (cell_fc (.tail (.tail .head)) rfl (by omega))) ?_
      refine JL.nil ?_
      refine J.splitAt 20 rfl (fun h20 => ?_) (fun h20 => ?_)
      focus
        refine J.condT rfl ?_
        refine J.region ?_
        refine JL.pure rfl rfl (OpP.move rfl) ?_
        refine JL.pure rfl rfl (OpP.addI rfl rfl (by omega) (by omega)) ?_
        refine JL.pure rfl rfl (OpP.assign rfl) ?_
        refine JL.nil ?_
        refine J.seq ?_
        refine J.seq ?_
        refine J.region ?_
        refine JL.pure rfl rfl (OpP.move rfl) ?_
        refine JL.nil ?_
        refine J.splitAt 23 rfl (fun h23 => ?_) (fun h23 => ?_)
        focus
          refine J.condT rfl ?_
          refine J.region ?_
          refine JL.pure rfl rfl (OpP.move rfl) ?_
          refine JL.pure rfl rfl (OpP.addI rfl rfl (by omega) (by omega)) ?_
          refine JL.pure rfl rfl (OpP.assign rfl) ?_
          refine JL.nil ?_
          refine J.seq ?_
          refine J.region ?_
          refine JL.pure rfl rfl (OpP.move rfl) ?_
          refine JL.pure rfl rfl (OpP.move rfl) ?_
          refine JL.pure rfl rfl (OpP.remI rfl rfl (by omega) (by omega)) ?_
          refine JL.decT rfl rfl (OpP.eql rfl rfl) (by omega) ?_
          refine JL.pure rfl rfl (OpP.indexAddrN rfl rfl (by omega)) ?_
          refine JL.mem0 rfl (by apply OpM.store1 rfl rfl rfl; (case' hu => exact .head); (case' hs => exact spl_fc rfl (by omega)); done) ?_; rintro _ _ ⟨rfl, rfl⟩
          refine JL.nil ?_
          refine J.region ?_
          refine JL.pure rfl rfl (OpP.move rfl) ?_
          refine JL.decT rfl rfl (OpP.geq rfl rfl) (by omega) ?_
          refine JL.pure rfl rfl (OpP.assign rfl) ?_
          refine JL.nil ?_
          refine J.inBlock ?_
          refine J.region ?_
          refine JL.pure rfl rfl (OpP.move rfl) ?_
          refine JL.pure rfl rfl (OpP.addI rfl rfl (by omega) (by omega)) ?_
          refine JL.pure rfl rfl (OpP.assign rfl) ?_
          refine JL.nil ?_
        rotate_left 1
        focus
          refine J.condF rfl ?_
          refine J.skip ?_
          refine J.seq ?_
          refine J.region ?_
          refine JL.pure rfl rfl (OpP.move rfl) ?_
          refine JL.pure rfl rfl (OpP.move rfl) ?_
          refine JL.pure rfl rfl (OpP.remI rfl rfl (by omega) (by omega)) ?_
          refine JL.decF rfl rfl (OpP.eql rfl rfl) (by omega) ?_
          refine JL.pure rfl rfl (OpP.indexAddrN rfl rfl (by omega)) ?_
          refine JL.mem0 rfl (by apply OpM.store1 rfl rfl rfl; (case' hu => exact .head); (case' hs => exact spl_fc rfl (by omega)); done) ?_; rintro _ _ ⟨rfl, rfl⟩
          refine JL.nil ?_
          refine J.region ?_
          refine JL.pure rfl rfl (OpP.move rfl) ?_
          refine JL.decT rfl rfl (OpP.geq rfl rfl) (by omega) ?_
          refine JL.pure rfl rfl (OpP.assign rfl) ?_
          refine JL.nil ?_
          refine J.inBlock ?_
          refine J.region ?_
          refine JL.pure rfl rfl (OpP.move rfl) ?_
          refine JL.pure rfl rfl (OpP.addI rfl rfl (by omega) (by omega)) ?_
          refine JL.pure rfl rfl (OpP.assign rfl) ?_
          refine JL.nil ?_
        rotate_left 1
      rotate_left 2
      focus
        refine J.condF rfl ?_
        refine J.skip ?_
        refine J.seq ?_
        refine J.seq ?_
        refine J.region ?_
        refine JL.pure rfl rfl (OpP.move rfl) ?_
        refine JL.nil ?_
        refine J.splitAt 23 rfl (fun h23 => ?_) (fun h23 => ?_)
        focus
          refine J.condT rfl ?_
          refine J.region ?_
          refine JL.pure rfl rfl (OpP.move rfl) ?_
          refine JL.pure rfl rfl (OpP.addI rfl rfl (by omega) (by omega)) ?_
          refine JL.pure rfl rfl (OpP.assign rfl) ?_
          refine JL.nil ?_
          refine J.seq ?_
          refine J.region ?_
          refine JL.pure rfl rfl (OpP.move rfl) ?_
          refine JL.pure rfl rfl (OpP.move rfl) ?_
          refine JL.pure rfl rfl (OpP.remI rfl rfl (by omega) (by omega)) ?_
          refine JL.decF rfl rfl (OpP.eql rfl rfl) (by omega) ?_
          refine JL.pure rfl rfl (OpP.indexAddrN rfl rfl (by omega)) ?_
          refine JL.mem0 rfl (by apply OpM.store1 rfl rfl rfl; (case' hu => exact .head); (case' hs => exact spl_fc rfl (by omega)); done) ?_; rintro _ _ ⟨rfl, rfl⟩
          refine JL.nil ?_
          refine J.region ?_
          refine JL.pure rfl rfl (OpP.move rfl) ?_
          refine JL.decT rfl rfl (OpP.geq rfl rfl) (by omega) ?_
          refine JL.pure rfl rfl (OpP.assign rfl) ?_
          refine JL.nil ?_
          refine J.inBlock ?_
          refine J.region ?_
          refine JL.pure rfl rfl (OpP.move rfl) ?_
          refine JL.pure rfl rfl (OpP.addI rfl rfl (by omega) (by omega)) ?_
          refine JL.pure rfl rfl (OpP.assign rfl) ?_
          refine JL.nil ?_
        rotate_left 1
        focus
          refine J.condF rfl ?_
          refine J.skip ?_
          refine J.seq ?_
          refine J.region ?_
          refine JL.pure rfl rfl (OpP.move rfl) ?_
          refine JL.pure rfl rfl (OpP.move rfl) ?_
          refine JL.pure rfl rfl (OpP.remI rfl rfl (by omega) (by omega)) ?_
          refine JL.decT rfl rfl (OpP.eql rfl rfl) (by omega) ?_
          refine JL.pure rfl rfl (OpP.indexAddrN rfl rfl (by omega)) ?_
          refine JL.mem0 rfl (by apply OpM.store1 rfl rfl rfl; (case' hu => exact .head); (case' hs => exact spl_fc rfl (by omega)); done) ?_; rintro _ _ ⟨rfl, rfl⟩
          refine JL.nil ?_
          refine J.region ?_
          refine JL.pure rfl rfl (OpP.move rfl) ?_
          refine JL.decF rfl rfl (OpP.geq rfl rfl) (by omega) ?_
          refine JL.pure rfl rfl (OpP.assign rfl) ?_
          refine JL.nil ?_
          refine J.inBlock ?_
          refine J.region ?_
          refine JL.pure rfl rfl (OpP.move rfl) ?_
          refine JL.pure rfl rfl (OpP.addI rfl rfl (by omega) (by omega)) ?_
          refine JL.pure rfl rfl (OpP.assign rfl) ?_
          refine JL.nil ?_
        rotate_left 1
      rotate_left 2
    rotate_left 4
    focus
      refine J.condF rfl ?_
      refine J.skip ?_
      refine J.seq ?_
      refine J.seq ?_
      refine J.region ?_
      refine JL.pure rfl rfl (OpP.move rfl) ?_
      refine JL.pure rfl rfl (OpP.indexAddrN rfl rfl (by omega)) ?_
      refine JL.read rfl rfl (OpR.load1 rfl (cell_fc (.tail (.tail .head)) rfl (by omega))) ?_
      refine JL.nil ?_
      refine J.splitAt 20 rfl (fun h20 => ?_) (fun h20 => ?_)
      focus
        refine J.condT rfl ?_
        refine J.region ?_
        refine JL.pure rfl rfl (OpP.move rfl) ?_
        refine JL.pure rfl rfl (OpP.addI rfl rfl (by omega) (by omega)) ?_
        refine JL.pure rfl rfl (OpP.assign rfl) ?_
        refine JL.nil ?_
        refine J.seq ?_
        refine J.seq ?_
        refine J.region ?_
        refine JL.pure rfl rfl (OpP.move rfl) ?_
        refine JL.nil ?_
        refine J.splitAt 23 rfl (fun h23 => ?_) (fun h23 => ?_)
        focus
          refine J.condT rfl ?_
          refine J.region ?_
          refine JL.pure rfl rfl (OpP.move rfl) ?_
          refine JL.pure rfl rfl (OpP.addI rfl rfl (by omega) (by omega)) ?_
          refine JL.pure rfl rfl (OpP.assign rfl) ?_
          refine JL.nil ?_
          refine J.seq ?_
          refine J.region ?_
          refine JL.pure rfl rfl (OpP.move rfl) ?_
          refine JL.pure rfl rfl (OpP.move rfl) ?_
          refine JL.pure rfl rfl (OpP.remI rfl rfl (by omega) (by omega)) ?_
          refine JL.decF rfl rfl (OpP.eql rfl rfl) (by omega) ?_
          refine JL.pure rfl rfl (OpP.indexAddrN rfl rfl (by omega)) ?_
          refine JL.mem0 rfl (by apply OpM.store1 rfl rfl rfl; (case' hu => exact .head); (case' hs => exact spl_fc rfl (by omega)); done) ?_; rintro _ _ ⟨rfl, rfl⟩
          refine JL.nil ?_
          refine J.region ?_
          refine JL.pure rfl rfl (OpP.move rfl) ?_
          refine JL.decT rfl rfl (OpP.geq rfl rfl) (by omega) ?_
          refine JL.pure rfl rfl (OpP.assign rfl) ?_
          refine JL.nil ?_
          refine J.inBlock ?_
          refine J.region ?_
          refine JL.pure rfl rfl (OpP.move rfl) ?_
          refine JL.pure rfl rfl (OpP.addI rfl rfl (by omega) (by omega)) ?_
          refine JL.pure rfl rfl (OpP.assign rfl) ?_
          refine JL.nil ?_
        rotate_left 1
        focus
          refine J.condF rfl ?_
          refine J.skip ?_
          refine J.seq ?_
          refine J.region ?_
          refine JL.pure rfl rfl (OpP.move rfl) ?_
          refine JL.pure rfl rfl (OpP.move rfl) ?_
          refine JL.pure rfl rfl (OpP.remI rfl rfl (by omega) (by omega)) ?_
          refine JL.decT rfl rfl (OpP.eql rfl rfl) (by omega) ?_
          refine JL.pure rfl rfl (OpP.indexAddrN rfl rfl (by omega)) ?_
          refine JL.mem0 rfl (by apply OpM.store1 rfl rfl rfl; (case' hu => exact .head); (case' hs => exact spl_fc rfl (by omega)); done) ?_; rintro _ _ ⟨rfl, rfl⟩
          refine JL.nil ?_
          refine J.region ?_
          refine JL.pure rfl rfl (OpP.move rfl) ?_
          refine JL.decF rfl rfl (OpP.geq rfl rfl) (by omega) ?_
          refine JL.pure rfl rfl (OpP.assign rfl) ?_
          refine JL.nil ?_
          refine J.inBlock ?_
          refine J.region ?_
          refine JL.pure rfl rfl (OpP.move rfl) ?_
          refine JL.pure rfl rfl (OpP.addI rfl rfl (by omega) (by omega)) ?_
          refine JL.pure rfl rfl (OpP.assign rfl) ?_
          refine JL.nil ?_
        rotate_left 1
      rotate_left 2
      focus
        refine J.condF rfl ?_
        refine J.skip ?_
        refine J.seq ?_
        refine J.seq ?_
        refine J.region ?_
        refine JL.pure rfl rfl (OpP.move rfl) ?_
        refine JL.nil ?_
        refine J.splitAt 23 rfl (fun h23 => ?_) (fun h23 => ?_)
        focus
          refine J.condT rfl ?_
          refine J.region ?_
          refine JL.pure rfl rfl (OpP.move rfl) ?_
          refine JL.pure rfl rfl (OpP.addI rfl rfl (by omega) (by omega)) ?_
          refine JL.pure rfl rfl (OpP.assign rfl) ?_
          refine JL.nil ?_
          refine J.seq ?_
          refine J.region ?_
          refine JL.pure rfl rfl (OpP.move rfl) ?_
          refine JL.pure rfl rfl (OpP.move rfl) ?_
          refine JL.pure rfl rfl (OpP.remI rfl rfl (by omega) (by omega)) ?_
          refine JL.decT rfl rfl (OpP.eql rfl rfl) (by omega) ?_
          refine JL.pure rfl rfl (OpP.indexAddrN rfl rfl (by omega)) ?_
          refine JL.mem0 rfl (by apply OpM.store1 rfl rfl rfl; (case' hu => exact .head); (case' hs => exact spl_fc rfl (by omega)); done) ?_; rintro _ _ ⟨rfl, rfl⟩
          refine JL.nil ?_
          refine J.region ?_
          refine JL.pure rfl rfl (OpP.move rfl) ?_
          refine JL.decF rfl rfl (OpP.geq rfl rfl) (by omega) ?_
          refine JL.pure rfl rfl (OpP.assign rfl) ?_
          refine JL.nil ?_
          refine J.inBlock ?_
          refine J.region ?_
          refine JL.pure rfl rfl (OpP.move rfl) ?_
          refine JL.pure rfl rfl (OpP.addI rfl rfl (by omega) (by omega)) ?_
          refine JL.pure rfl rfl (OpP.assign rfl) ?_
          refine JL.nil ?_
        rotate_left 1
        focus
          refine J.condF rfl ?_
          refine J.skip ?_
          refine J.seq ?_
          refine J.region ?_
          refine JL.pure rfl rfl (OpP.move rfl) ?_
          refine JL.pure rfl rfl (OpP.move rfl) ?_
          refine JL.pure rfl rfl (OpP.remI rfl rfl (by omega) (by omega)) ?_
          refine JL.decF rfl rfl (OpP.eql rfl rfl) (by omega) ?_
          refine JL.pure rfl rfl (OpP.indexAddrN rfl rfl (by omega)) ?_
          refine JL.mem0 rfl (by apply OpM.store1 rfl rfl rfl; (case' hu => exact .head); (case' hs => exact spl_fc rfl (by omega)); done) ?_; rintro _ _ ⟨rfl, rfl⟩
          refine JL.nil ?_
          refine J.region ?_
          refine JL.pure rfl rfl (OpP.move rfl) ?_
          refine JL.decF rfl rfl (OpP.geq rfl rfl) (by omega) ?_
          refine JL.pure rfl rfl (OpP.assign rfl) ?_
          refine JL.nil ?_
          refine J.inBlock ?_
          refine J.region ?_
          refine JL.pure rfl rfl (OpP.move rfl) ?_
          refine JL.pure rfl rfl (OpP.addI rfl rfl (by omega) (by omega)) ?_
          refine JL.pure rfl rfl (OpP.assign rfl) ?_
          refine JL.nil ?_
        rotate_left 1
      rotate_left 2
    rotate_left 4
    all_goals
      rw [ha] at h15
      rw [hb] at h20
      subst h15 h20 h23
      refine back (i + 1) (by omega) (by omega) (by rw [hc]; exact (by repeat (first | exact SubEnv.nil | refine SubEnv.cons (by first | rfl | exact congrArg (fun z => some (Value.int .i64 z)) (by omega) | (simp; done)) ?_))) (fun _ h => ?_)
      rw [upd_bit] at h
      · exact h
      · rw [hs]; rfl
  · have : i = 32 := by omega
    subst this
    rw [bit_full (D := fun _ => false) (x := x + y) fun _ _ => rfl]
    refine J.seq ?_
    refine J.seq ?_
    refine J.region ?_
    refine JL.pure rfl rfl (OpP.move rfl) ?_
    refine JL.decF rfl rfl (OpP.lss rfl rfl) (by omega) ?_
    refine JL.nil ?_
    refine J.condF rfl ?_
    refine J.exit rfl ?_
    refine J.seq ?_
    refine J.region ?_
    refine JL.read rfl rfl (OpR.loadN rfl (Cells.full .head) rfl) ?_
    refine JL.mem0 rfl (by apply OpM.storeN rfl rfl (fc_length _ _) (fc_one fun _ => rfl); (case' hu => exact (.tail .head)); (case' hs => exact spl_all (by rfl)); done) ?_; rintro _ _ ⟨rfl, rfl⟩
    refine JL.nil ?_
    refine J.retC rfl rfl (by apply Cells.full; (with_reducible repeat (first | exact .head | apply Has.tail))) (by rfl) ?_
    exact ⟨_, ⟨rfl, rfl⟩, fun _ h => h.tail.tail.tail.tail⟩
theorem Pick_ok {w0 : World} {F : List HProp} {x y z : BitVec 32} :
    FnO Tryd.prog w0 49 [.agg (fc 32 (bitV x)).toArray, .agg (fc 32 (bitV y)).toArray, .agg (fc 32 (bitV z)).toArray] F (fun v l' => v = .agg (fc 32 (bitV (z ^^^ (x &&& (y ^^^ z))))).toArray ∧ l' = F) := by
  refine FnO.weak ?_
  refine FnO.intro (n := 23) Tryd.func49 rfl rfl rfl ?_
  refine J.seq ?_
  refine J.region ?_
  refine JL.mem rfl rfl (OpM.box rfl rfl) ?_; rintro _ _ ⟨b3, rfl, rfl⟩
  refine JL.mem rfl rfl (OpM.box rfl rfl) ?_; rintro _ _ ⟨b4, rfl, rfl⟩
  refine JL.mem rfl rfl (OpM.box rfl rfl) ?_; rintro _ _ ⟨b5, rfl, rfl⟩
  refine JL.mem rfl rfl OpM.alloc ?_; rintro _ _ ⟨b6, rfl, rfl⟩
  refine JL.nil ?_
  refine J.seq ?_
  refine J.region ?_
  refine JL.read rfl rfl (OpR.loadN rfl (Cells.full (.tail .head)) rfl) ?_
  refine JL.mem rfl rfl OpM.alloc ?_; rintro _ _ ⟨b7, rfl, rfl⟩
  refine JL.mem0 rfl (by apply OpM.storeN rfl rfl (fc_length _ _) (fc_one fun _ => rfl); (case' hu => exact .head); (case' hs => exact spl_all (by rfl)); done) ?_; rintro _ _ ⟨rfl, rfl⟩
  refine JL.nil ?_
  refine J.seq ?_
  refine J.seq ?_
  refine J.region ?_
  refine JL.pure rfl rfl (OpP.assign rfl) ?_
  refine JL.nil ?_
  refine J.block ?_
  refine J.loopI (fun i : Nat => 32 - i) (fun i => i ≤ 32) (fun i => [(8, .int .i64 (i : Nat)), (3, .pointer (some ⟨b3, 0, none⟩)), (4, .pointer (some ⟨b4, 0, none⟩)), (5, .pointer (some ⟨b5, 0, none⟩)), (6, .pointer (some ⟨b6, 0, none⟩)), (7, .pointer (some ⟨b7, 0, none⟩))])
    (fun i => row b7 73 (fc 32 fun j => .bool (if j < i then (z ^^^ (x &&& (y ^^^ z))).getLsbD j else z.getLsbD j)) :: row b6 73 (List.replicate 32 (.bool false)) :: row b5 73 (fc 32 (bitV z)) :: row b4 73 (fc 32 (bitV y)) :: row b3 73 (fc 32 (bitV x)) :: F) 0 (Nat.zero_le _) (by repeat (first | exact SubEnv.nil | refine SubEnv.cons (by first | rfl | exact congrArg (fun z => some (Value.int .i64 z)) (by omega) | (simp; done)) ?_)) (fun _ h => h) (fun i hi back => ?_)
  dsimp only at hi back ⊢
  by_cases hlt : i < 32
  · refine J.seq ?_
    refine J.seq ?_
    refine J.region ?_
    refine JL.pure rfl rfl (OpP.move rfl) ?_
    refine JL.decT rfl rfl (OpP.lss rfl rfl) (by omega) ?_
    refine JL.nil ?_
    refine J.condT rfl ?_
    refine J.skip ?_
    refine J.seq ?_
    refine J.block ?_
    refine J.seq ?_
    refine J.region ?_
    refine JL.pure rfl rfl (OpP.move rfl) ?_
    refine JL.pure rfl rfl (OpP.indexAddrN rfl rfl (by omega)) ?_
    refine JL.read rfl rfl (OpR.load1 rfl (cell_fc (.tail (.tail (.tail (.tail .head)))) rfl (by omega))) ?_
    refine JL.nil ?_
    refine J.splitAt 16 rfl (fun h16 => ?_) (fun h16 => ?_)
    focus
      refine J.condT rfl ?_
      refine J.region ?_
      refine JL.pure rfl rfl (OpP.move rfl) ?_
      refine JL.pure rfl rfl (OpP.move rfl) ?_
      refine JL.pure rfl rfl (OpP.indexAddrN rfl rfl (by omega)) ?_
      refine JL.read rfl rfl (OpR.load1 rfl (cell_fc (.tail (.tail (.tail .head))) rfl (by omega))) ?_
      refine JL.pure rfl rfl (OpP.indexAddrN rfl rfl (by omega)) ?_
      refine JL.mem0 rfl (by apply OpM.store1 rfl rfl rfl; (case' hu => exact .head); (case' hs => exact spl_fc rfl (by omega)); done) ?_; rintro _ _ ⟨rfl, rfl⟩
      refine JL.nil ?_
      refine J.inBlock ?_
      refine J.region ?_
      refine JL.pure rfl rfl (OpP.move rfl) ?_
      refine JL.pure rfl rfl (OpP.addI rfl rfl (by omega) (by omega)) ?_
      refine JL.pure rfl rfl (OpP.assign rfl) ?_
      refine JL.nil ?_
    rotate_left 1
    focus
      refine J.condF rfl ?_
      refine J.skip ?_
      refine J.inBlock ?_
      refine J.region ?_
      refine JL.pure rfl rfl (OpP.move rfl) ?_
      refine JL.pure rfl rfl (OpP.addI rfl rfl (by omega) (by omega)) ?_
      refine JL.pure rfl rfl (OpP.assign rfl) ?_
      refine JL.nil ?_
    rotate_left 1
    · refine back (i + 1) (by omega) (by omega) (by repeat (first | exact SubEnv.nil | refine SubEnv.cons (by first | rfl | exact congrArg (fun z => some (Value.int .i64 z)) (by omega) | (simp; done)) ?_)) (fun _ h => ?_)
      rw [upd_bit] at h
      · exact h
      · simp only [BitVec.getLsbD_xor, BitVec.getLsbD_and]
        generalize x.getLsbD i = a at *
        generalize y.getLsbD i = b at *
        generalize z.getLsbD i = c at *
        clear back
        cases a <;> cases b <;> cases c <;> first | rfl | contradiction
    · refine back (i + 1) (by omega) (by omega) (by repeat (first | exact SubEnv.nil | refine SubEnv.cons (by first | rfl | exact congrArg (fun z => some (Value.int .i64 z)) (by omega) | (simp; done)) ?_)) (fun _ h => ?_)
      rw [keep_bit] at h
      · exact h
      · simp only [BitVec.getLsbD_xor, BitVec.getLsbD_and]
        generalize x.getLsbD i = a at *
        generalize y.getLsbD i = b at *
        generalize z.getLsbD i = c at *
        clear back
        cases a <;> cases b <;> cases c <;> first | rfl | contradiction
  · have : i = 32 := by omega
    subst this
    rw [bit_full (D := z.getLsbD) (x := z ^^^ (x &&& (y ^^^ z))) fun _ _ => rfl]
    refine J.seq ?_
    refine J.seq ?_
    refine J.region ?_
    refine JL.pure rfl rfl (OpP.move rfl) ?_
    refine JL.decF rfl rfl (OpP.lss rfl rfl) (by omega) ?_
    refine JL.nil ?_
    refine J.condF rfl ?_
    refine J.exit rfl ?_
    refine J.seq ?_
    refine J.region ?_
    refine JL.read rfl rfl (OpR.loadN rfl (Cells.full .head) rfl) ?_
    refine JL.mem0 rfl (by apply OpM.storeN rfl rfl (fc_length _ _) (fc_one fun _ => rfl); (case' hu => exact (.tail .head)); (case' hs => exact spl_all (by rfl)); done) ?_; rintro _ _ ⟨rfl, rfl⟩
    refine JL.nil ?_
    refine J.retC rfl rfl (by apply Cells.full; (with_reducible repeat (first | exact .head | apply Has.tail))) (by rfl) ?_
    exact ⟨_, ⟨rfl, rfl⟩, fun _ h => h.tail.tail.tail.tail.tail⟩
theorem Most_ok {w0 : World} {F : List HProp} {x y z : BitVec 32} :
    FnO Tryd.prog w0 50 [.agg (fc 32 (bitV x)).toArray, .agg (fc 32 (bitV y)).toArray, .agg (fc 32 (bitV z)).toArray] F (fun v l' => v = .agg (fc 32 (bitV (x &&& y ||| z &&& (x ||| y)))).toArray ∧ l' = F) := by
  refine FnO.weak ?_
  refine FnO.intro (n := 44) Tryd.func50 rfl rfl rfl ?_
  refine J.seq ?_
  refine J.region ?_
  refine JL.mem rfl rfl (OpM.box rfl rfl) ?_; rintro _ _ ⟨b3, rfl, rfl⟩
  refine JL.mem rfl rfl (OpM.box rfl rfl) ?_; rintro _ _ ⟨b4, rfl, rfl⟩
  refine JL.mem rfl rfl (OpM.box rfl rfl) ?_; rintro _ _ ⟨b5, rfl, rfl⟩
  refine JL.mem rfl rfl OpM.alloc ?_; rintro _ _ ⟨b6, rfl, rfl⟩
  refine JL.nil ?_
  refine J.seq ?_
  refine J.region ?_
  refine JL.mem rfl rfl OpM.alloc ?_; rintro _ _ ⟨b7, rfl, rfl⟩
  refine JL.nil ?_
  refine J.seq ?_
  refine J.seq ?_
  refine J.region ?_
  refine JL.pure rfl rfl (OpP.assign rfl) ?_
  refine JL.nil ?_
  refine J.block ?_
  refine J.loopI (fun i : Nat => 32 - i) (fun i => i ≤ 32) (fun i => [(8, .int .i64 (i : Nat)), (3, .pointer (some ⟨b3, 0, none⟩)), (4, .pointer (some ⟨b4, 0, none⟩)), (5, .pointer (some ⟨b5, 0, none⟩)), (6, .pointer (some ⟨b6, 0, none⟩)), (7, .pointer (some ⟨b7, 0, none⟩))])
    (fun i => row b7 73 (fc 32 fun j => .bool (if j < i then (x &&& y ||| z &&& (x ||| y)).getLsbD j else false)) :: row b6 73 (List.replicate 32 (.bool false)) :: row b5 73 (fc 32 (bitV z)) :: row b4 73 (fc 32 (bitV y)) :: row b3 73 (fc 32 (bitV x)) :: F) 0 (Nat.zero_le _) (by repeat (first | exact SubEnv.nil | refine SubEnv.cons (by first | rfl | exact congrArg (fun z => some (Value.int .i64 z)) (by omega) | (simp; done)) ?_)) (fun _ h => by dsimp only; rw [← bit_zero (D := fun _ => false) (fun _ => rfl)]; exact h) (fun i hi back => ?_)
  dsimp only at hi back ⊢
  by_cases hlt : i < 32
  · refine J.seq ?_
    refine J.seq ?_
    refine J.region ?_
    refine JL.pure rfl rfl (OpP.move rfl) ?_
    refine JL.decT rfl rfl (OpP.lss rfl rfl) (by omega) ?_
    refine JL.nil ?_
    refine J.condT rfl ?_
    refine J.skip ?_
    refine J.seq ?_
    refine J.block ?_
    refine J.region ?_
    refine JL.pure rfl rfl (OpP.move rfl) ?_
    refine JL.pure rfl rfl (OpP.move rfl) ?_
    refine JL.pure rfl rfl (OpP.indexAddrN rfl rfl (by omega)) ?_
    refine JL.read rfl rfl (OpR.load1 rfl (cell_fc (.tail (.tail (.tail (.tail .head)))) rfl (by omega))) ?_
    refine JL.pure rfl rfl (OpP.move rfl) ?_
    refine JL.splitAt 17 rfl (fun h17 => ?_) (fun h17 => ?_)
    focus
      refine JL.pure rfl rfl (OpP.move rfl) ?_
      refine JL.pure rfl rfl (OpP.indexAddrN rfl rfl (by omega)) ?_
      refine JL.read rfl rfl (OpR.load1 rfl (cell_fc (.tail (.tail (.tail .head))) rfl (by omega))) ?_
      refine JL.pure rfl rfl (OpP.pickT rfl rfl) ?_
      refine JL.pure rfl rfl (OpP.move rfl) ?_
      refine JL.splitAt 22 rfl (fun h22 => ?_) (fun h22 => ?_)
      focus
        refine JL.skip rfl rfl ?_
        refine JL.skip rfl rfl ?_
        refine JL.skip rfl rfl ?_
        refine JL.skip rfl rfl ?_
        refine JL.skip rfl rfl ?_
        refine JL.skip rfl rfl ?_
        refine JL.skip rfl rfl ?_
        refine JL.skip rfl rfl ?_
        refine JL.pure rfl rfl (OpP.pickT rfl rfl) ?_
        refine JL.pure rfl rfl (OpP.move rfl) ?_
        refine JL.skip rfl rfl ?_
        refine JL.skip rfl rfl ?_
        refine JL.skip rfl rfl ?_
        refine JL.skip rfl rfl ?_
        refine JL.skip rfl rfl ?_
        refine JL.skip rfl rfl ?_
        refine JL.skip rfl rfl ?_
        refine JL.skip rfl rfl ?_
        refine JL.pure rfl rfl (OpP.pickT rfl rfl) ?_
        refine JL.pure rfl rfl (OpP.indexAddrN rfl rfl (by omega)) ?_
        refine JL.mem0 rfl (by apply OpM.store1 rfl rfl rfl; (case' hu => exact .head); (case' hs => exact spl_fc rfl (by omega)); done) ?_; rintro _ _ ⟨rfl, rfl⟩
        refine JL.nil ?_
        refine J.inBlock ?_
        refine J.region ?_
        refine JL.pure rfl rfl (OpP.move rfl) ?_
        refine JL.pure rfl rfl (OpP.addI rfl rfl (by omega) (by omega)) ?_
        refine JL.pure rfl rfl (OpP.assign rfl) ?_
        refine JL.nil ?_
      rotate_left 1
      focus
        refine JL.pure rfl rfl (OpP.move rfl) ?_
        refine JL.pure rfl rfl (OpP.indexAddrN rfl rfl (by omega)) ?_
        refine JL.read rfl rfl (OpR.load1 rfl (cell_fc (.tail (.tail (.tail (.tail .head)))) rfl (by omega))) ?_
        refine JL.pure rfl rfl (OpP.move rfl) ?_
        refine JL.splitAt 26 rfl (fun h26 => ?_) (fun h26 => ?_)
        focus
          refine JL.pure rfl rfl (OpP.move rfl) ?_
          refine JL.pure rfl rfl (OpP.indexAddrN rfl rfl (by omega)) ?_
          refine JL.read rfl rfl (OpR.load1 rfl (cell_fc (.tail (.tail .head)) rfl (by omega))) ?_
          refine JL.pure rfl rfl (OpP.pickT rfl rfl) ?_
          refine JL.pure rfl rfl (OpP.pickF rfl rfl) ?_
          refine JL.pure rfl rfl (OpP.move rfl) ?_
          refine JL.splitAt 32 rfl (fun h32 => ?_) (fun h32 => ?_)
          focus
            refine JL.skip rfl rfl ?_
            refine JL.skip rfl rfl ?_
            refine JL.skip rfl rfl ?_
            refine JL.skip rfl rfl ?_
            refine JL.skip rfl rfl ?_
            refine JL.skip rfl rfl ?_
            refine JL.skip rfl rfl ?_
            refine JL.skip rfl rfl ?_
            refine JL.pure rfl rfl (OpP.pickT rfl rfl) ?_
            refine JL.pure rfl rfl (OpP.indexAddrN rfl rfl (by omega)) ?_
            refine JL.mem0 rfl (by apply OpM.store1 rfl rfl rfl; (case' hu => exact .head); (case' hs => exact spl_fc rfl (by omega)); done) ?_; rintro _ _ ⟨rfl, rfl⟩
            refine JL.nil ?_
            refine J.inBlock ?_
            refine J.region ?_
            refine JL.pure rfl rfl (OpP.move rfl) ?_
            refine JL.pure rfl rfl (OpP.addI rfl rfl (by omega) (by omega)) ?_
            refine JL.pure rfl rfl (OpP.assign rfl) ?_
            refine JL.nil ?_
          rotate_left 1
          focus
            refine JL.pure rfl rfl (OpP.move rfl) ?_
            refine JL.pure rfl rfl (OpP.indexAddrN rfl rfl (by omega)) ?_
            refine JL.read rfl rfl (OpR.load1 rfl (cell_fc (.tail (.tail (.tail .head))) rfl (by omega))) ?_
            refine JL.pure rfl rfl (OpP.move rfl) ?_
            refine JL.splitAt 36 rfl (fun h36 => ?_) (fun h36 => ?_)
            focus
              refine JL.pure rfl rfl (OpP.move rfl) ?_
              refine JL.pure rfl rfl (OpP.indexAddrN rfl rfl (by omega)) ?_
              refine JL.read rfl rfl (OpR.load1 rfl (cell_fc (.tail (.tail .head)) rfl (by omega))) ?_
              refine JL.pure rfl rfl (OpP.pickT rfl rfl) ?_
              refine JL.pure rfl rfl (OpP.pickF rfl rfl) ?_
              refine JL.pure rfl rfl (OpP.indexAddrN rfl rfl (by omega)) ?_
              refine JL.mem0 rfl (by apply OpM.store1 rfl rfl rfl; (case' hu => exact .head); (case' hs => exact spl_fc rfl (by omega)); done) ?_; rintro _ _ ⟨rfl, rfl⟩
              refine JL.nil ?_
              refine J.inBlock ?_
              refine J.region ?_
              refine JL.pure rfl rfl (OpP.move rfl) ?_
              refine JL.pure rfl rfl (OpP.addI rfl rfl (by omega) (by omega)) ?_
              refine JL.pure rfl rfl (OpP.assign rfl) ?_
              refine JL.nil ?_
            rotate_left 1
            focus
              refine JL.skip rfl rfl ?_
              refine JL.skip rfl rfl ?_
              refine JL.skip rfl rfl ?_
              refine JL.pure rfl rfl (OpP.pickF rfl rfl) ?_
              refine JL.pure rfl rfl (OpP.pickF rfl rfl) ?_
              refine JL.pure rfl rfl (OpP.indexAddrN rfl rfl (by omega)) ?_
              refine JL.mem0 rfl (by apply OpM.store1 rfl rfl rfl; (case' hu => exact .head); (case' hs => exact spl_fc rfl (by omega)); done) ?_; rintro _ _ ⟨rfl, rfl⟩
              refine JL.nil ?_
              refine J.inBlock ?_
              refine J.region ?_
              refine JL.pure rfl rfl (OpP.move rfl) ?_
              refine JL.pure rfl rfl (OpP.addI rfl rfl (by omega) (by omega)) ?_
              refine JL.pure rfl rfl (OpP.assign rfl) ?_
              refine JL.nil ?_
            rotate_left 1
          rotate_left 2
        rotate_left 3
        focus
          refine JL.skip rfl rfl ?_
          refine JL.skip rfl rfl ?_
          refine JL.skip rfl rfl ?_
          refine JL.pure rfl rfl (OpP.pickF rfl rfl) ?_
          refine JL.pure rfl rfl (OpP.pickF rfl rfl) ?_
          refine JL.pure rfl rfl (OpP.move rfl) ?_
          refine JL.pure rfl rfl (OpP.move rfl) ?_
          refine JL.pure rfl rfl (OpP.indexAddrN rfl rfl (by omega)) ?_
          refine JL.read rfl rfl (OpR.load1 rfl (cell_fc (.tail (.tail (.tail .head))) rfl (by omega))) ?_
          refine JL.pure rfl rfl (OpP.move rfl) ?_
          refine JL.splitAt 36 rfl (fun h36 => ?_) (fun h36 => ?_)
          focus
            refine JL.pure rfl rfl (OpP.move rfl) ?_
            refine JL.pure rfl rfl (OpP.indexAddrN rfl rfl (by omega)) ?_
            refine JL.read rfl rfl (OpR.load1 rfl (cell_fc (.tail (.tail .head)) rfl (by omega))) ?_
            refine JL.pure rfl rfl (OpP.pickT rfl rfl) ?_
            refine JL.pure rfl rfl (OpP.pickF rfl rfl) ?_
            refine JL.pure rfl rfl (OpP.indexAddrN rfl rfl (by omega)) ?_
            refine JL.mem0 rfl (by apply OpM.store1 rfl rfl rfl; (case' hu => exact .head); (case' hs => exact spl_fc rfl (by omega)); done) ?_; rintro _ _ ⟨rfl, rfl⟩
            refine JL.nil ?_
            refine J.inBlock ?_
            refine J.region ?_
            refine JL.pure rfl rfl (OpP.move rfl) ?_
            refine JL.pure rfl rfl (OpP.addI rfl rfl (by omega) (by omega)) ?_
            refine JL.pure rfl rfl (OpP.assign rfl) ?_
            refine JL.nil ?_
          rotate_left 1
          focus
            refine JL.skip rfl rfl ?_
            refine JL.skip rfl rfl ?_
            refine JL.skip rfl rfl ?_
            refine JL.pure rfl rfl (OpP.pickF rfl rfl) ?_
            refine JL.pure rfl rfl (OpP.pickF rfl rfl) ?_
            refine JL.pure rfl rfl (OpP.indexAddrN rfl rfl (by omega)) ?_
            refine JL.mem0 rfl (by apply OpM.store1 rfl rfl rfl; (case' hu => exact .head); (case' hs => exact spl_fc rfl (by omega)); done) ?_; rintro _ _ ⟨rfl, rfl⟩
            refine JL.nil ?_
            refine J.inBlock ?_
            refine J.region ?_
            refine JL.pure rfl rfl (OpP.move rfl) ?_
            refine JL.pure rfl rfl (OpP.addI rfl rfl (by omega) (by omega)) ?_
            refine JL.pure rfl rfl (OpP.assign rfl) ?_
            refine JL.nil ?_
          rotate_left 1
        rotate_left 2
      rotate_left 5
    rotate_left 6
    focus
      refine JL.skip rfl rfl ?_
      refine JL.skip rfl rfl ?_
      refine JL.skip rfl rfl ?_
      refine JL.pure rfl rfl (OpP.pickF rfl rfl) ?_
      refine JL.pure rfl rfl (OpP.move rfl) ?_
      refine JL.pure rfl rfl (OpP.move rfl) ?_
      refine JL.pure rfl rfl (OpP.indexAddrN rfl rfl (by omega)) ?_
      refine JL.read rfl rfl (OpR.load1 rfl (cell_fc (.tail (.tail (.tail (.tail .head)))) rfl (by omega))) ?_
      refine JL.pure rfl rfl (OpP.move rfl) ?_
      refine JL.splitAt 26 rfl (fun h26 => ?_) (fun h26 => ?_)
      focus
        refine JL.pure rfl rfl (OpP.move rfl) ?_
        refine JL.pure rfl rfl (OpP.indexAddrN rfl rfl (by omega)) ?_
        refine JL.read rfl rfl (OpR.load1 rfl (cell_fc (.tail (.tail .head)) rfl (by omega))) ?_
        refine JL.pure rfl rfl (OpP.pickT rfl rfl) ?_
        refine JL.pure rfl rfl (OpP.pickF rfl rfl) ?_
        refine JL.pure rfl rfl (OpP.move rfl) ?_
        refine JL.splitAt 32 rfl (fun h32 => ?_) (fun h32 => ?_)
        focus
          refine JL.skip rfl rfl ?_
          refine JL.skip rfl rfl ?_
          refine JL.skip rfl rfl ?_
          refine JL.skip rfl rfl ?_
          refine JL.skip rfl rfl ?_
          refine JL.skip rfl rfl ?_
          refine JL.skip rfl rfl ?_
          refine JL.skip rfl rfl ?_
          refine JL.pure rfl rfl (OpP.pickT rfl rfl) ?_
          refine JL.pure rfl rfl (OpP.indexAddrN rfl rfl (by omega)) ?_
          refine JL.mem0 rfl (by apply OpM.store1 rfl rfl rfl; (case' hu => exact .head); (case' hs => exact spl_fc rfl (by omega)); done) ?_; rintro _ _ ⟨rfl, rfl⟩
          refine JL.nil ?_
          refine J.inBlock ?_
          refine J.region ?_
          refine JL.pure rfl rfl (OpP.move rfl) ?_
          refine JL.pure rfl rfl (OpP.addI rfl rfl (by omega) (by omega)) ?_
          refine JL.pure rfl rfl (OpP.assign rfl) ?_
          refine JL.nil ?_
        rotate_left 1
        focus
          refine JL.pure rfl rfl (OpP.move rfl) ?_
          refine JL.pure rfl rfl (OpP.indexAddrN rfl rfl (by omega)) ?_
          refine JL.read rfl rfl (OpR.load1 rfl (cell_fc (.tail (.tail (.tail .head))) rfl (by omega))) ?_
          refine JL.pure rfl rfl (OpP.move rfl) ?_
          refine JL.splitAt 36 rfl (fun h36 => ?_) (fun h36 => ?_)
          focus
            refine JL.pure rfl rfl (OpP.move rfl) ?_
            refine JL.pure rfl rfl (OpP.indexAddrN rfl rfl (by omega)) ?_
            refine JL.read rfl rfl (OpR.load1 rfl (cell_fc (.tail (.tail .head)) rfl (by omega))) ?_
            refine JL.pure rfl rfl (OpP.pickT rfl rfl) ?_
            refine JL.pure rfl rfl (OpP.pickF rfl rfl) ?_
            refine JL.pure rfl rfl (OpP.indexAddrN rfl rfl (by omega)) ?_
            refine JL.mem0 rfl (by apply OpM.store1 rfl rfl rfl; (case' hu => exact .head); (case' hs => exact spl_fc rfl (by omega)); done) ?_; rintro _ _ ⟨rfl, rfl⟩
            refine JL.nil ?_
            refine J.inBlock ?_
            refine J.region ?_
            refine JL.pure rfl rfl (OpP.move rfl) ?_
            refine JL.pure rfl rfl (OpP.addI rfl rfl (by omega) (by omega)) ?_
            refine JL.pure rfl rfl (OpP.assign rfl) ?_
            refine JL.nil ?_
          rotate_left 1
          focus
            refine JL.skip rfl rfl ?_
            refine JL.skip rfl rfl ?_
            refine JL.skip rfl rfl ?_
            refine JL.pure rfl rfl (OpP.pickF rfl rfl) ?_
            refine JL.pure rfl rfl (OpP.pickF rfl rfl) ?_
            refine JL.pure rfl rfl (OpP.indexAddrN rfl rfl (by omega)) ?_
            refine JL.mem0 rfl (by apply OpM.store1 rfl rfl rfl; (case' hu => exact .head); (case' hs => exact spl_fc rfl (by omega)); done) ?_; rintro _ _ ⟨rfl, rfl⟩
            refine JL.nil ?_
            refine J.inBlock ?_
            refine J.region ?_
            refine JL.pure rfl rfl (OpP.move rfl) ?_
            refine JL.pure rfl rfl (OpP.addI rfl rfl (by omega) (by omega)) ?_
            refine JL.pure rfl rfl (OpP.assign rfl) ?_
            refine JL.nil ?_
          rotate_left 1
        rotate_left 2
      rotate_left 3
      focus
        refine JL.skip rfl rfl ?_
        refine JL.skip rfl rfl ?_
        refine JL.skip rfl rfl ?_
        refine JL.pure rfl rfl (OpP.pickF rfl rfl) ?_
        refine JL.pure rfl rfl (OpP.pickF rfl rfl) ?_
        refine JL.pure rfl rfl (OpP.move rfl) ?_
        refine JL.pure rfl rfl (OpP.move rfl) ?_
        refine JL.pure rfl rfl (OpP.indexAddrN rfl rfl (by omega)) ?_
        refine JL.read rfl rfl (OpR.load1 rfl (cell_fc (.tail (.tail (.tail .head))) rfl (by omega))) ?_
        refine JL.pure rfl rfl (OpP.move rfl) ?_
        refine JL.splitAt 36 rfl (fun h36 => ?_) (fun h36 => ?_)
        focus
          refine JL.pure rfl rfl (OpP.move rfl) ?_
          refine JL.pure rfl rfl (OpP.indexAddrN rfl rfl (by omega)) ?_
          refine JL.read rfl rfl (OpR.load1 rfl (cell_fc (.tail (.tail .head)) rfl (by omega))) ?_
          refine JL.pure rfl rfl (OpP.pickT rfl rfl) ?_
          refine JL.pure rfl rfl (OpP.pickF rfl rfl) ?_
          refine JL.pure rfl rfl (OpP.indexAddrN rfl rfl (by omega)) ?_
          refine JL.mem0 rfl (by apply OpM.store1 rfl rfl rfl; (case' hu => exact .head); (case' hs => exact spl_fc rfl (by omega)); done) ?_; rintro _ _ ⟨rfl, rfl⟩
          refine JL.nil ?_
          refine J.inBlock ?_
          refine J.region ?_
          refine JL.pure rfl rfl (OpP.move rfl) ?_
          refine JL.pure rfl rfl (OpP.addI rfl rfl (by omega) (by omega)) ?_
          refine JL.pure rfl rfl (OpP.assign rfl) ?_
          refine JL.nil ?_
        rotate_left 1
        focus
          refine JL.skip rfl rfl ?_
          refine JL.skip rfl rfl ?_
          refine JL.skip rfl rfl ?_
          refine JL.pure rfl rfl (OpP.pickF rfl rfl) ?_
          refine JL.pure rfl rfl (OpP.pickF rfl rfl) ?_
          refine JL.pure rfl rfl (OpP.indexAddrN rfl rfl (by omega)) ?_
          refine JL.mem0 rfl (by apply OpM.store1 rfl rfl rfl; (case' hu => exact .head); (case' hs => exact spl_fc rfl (by omega)); done) ?_; rintro _ _ ⟨rfl, rfl⟩
          refine JL.nil ?_
          refine J.inBlock ?_
          refine J.region ?_
          refine JL.pure rfl rfl (OpP.move rfl) ?_
          refine JL.pure rfl rfl (OpP.addI rfl rfl (by omega) (by omega)) ?_
          refine JL.pure rfl rfl (OpP.assign rfl) ?_
          refine JL.nil ?_
        rotate_left 1
      rotate_left 2
    rotate_left 5
    all_goals
      refine back (i + 1) (by omega) (by omega) (by repeat (first | exact SubEnv.nil | refine SubEnv.cons (by first | rfl | exact congrArg (fun z => some (Value.int .i64 z)) (by omega) | (simp; done)) ?_)) (fun _ h => ?_)
      rw [upd_bit] at h
      · exact h
      · simp only [BitVec.getLsbD_or, BitVec.getLsbD_and]
        generalize x.getLsbD i = a at *
        generalize y.getLsbD i = b at *
        generalize z.getLsbD i = c at *
        clear back
        cases a <;> cases b <;> cases c <;> first | rfl | contradiction
  · have : i = 32 := by omega
    subst this
    rw [bit_full (D := fun _ => false) (x := x &&& y ||| z &&& (x ||| y)) fun _ _ => rfl]
    refine J.seq ?_
    refine J.seq ?_
    refine J.region ?_
    refine JL.pure rfl rfl (OpP.move rfl) ?_
    refine JL.decF rfl rfl (OpP.lss rfl rfl) (by omega) ?_
    refine JL.nil ?_
    refine J.condF rfl ?_
    refine J.exit rfl ?_
    refine J.seq ?_
    refine J.region ?_
    refine JL.read rfl rfl (OpR.loadN rfl (Cells.full .head) rfl) ?_
    refine JL.mem0 rfl (by apply OpM.storeN rfl rfl (fc_length _ _) (fc_one fun _ => rfl); (case' hu => exact (.tail .head)); (case' hs => exact spl_all (by rfl)); done) ?_; rintro _ _ ⟨rfl, rfl⟩
    refine JL.nil ?_
    refine J.retC rfl rfl (by apply Cells.full; (with_reducible repeat (first | exact .head | apply Has.tail))) (by rfl) ?_
    exact ⟨_, ⟨rfl, rfl⟩, fun _ h => h.tail.tail.tail.tail.tail⟩
end Go.Proofs.B
