/- A text of the proof of a statement about the given program: its part BRef2. No person has read it. -/
import Derived.Test.YtecnolmpdgfnfaaDoorBRef1
import Derived.Test.YtecnolmpdgfnfaaDoorBPure
import Derived.Test.YtecnolmpdgfnfaaDoorJ24
-- seat b
namespace Go.Proofs.B
open Go Go.Gp Go.RowKit

def digV (c : Nat) : Nat := if c ≤ 57 then c - 48 else c - 87
def IsHex (c : Nat) : Prop := 48 ≤ c ∧ c ≤ 57 ∨ 97 ≤ c ∧ c ≤ 102
theorem Digit_ok {w0 : World} {F : List HProp} {c : Nat} (hc : IsHex c) :
    FnO Tryd.prog w0 44 [.int .u8 (c : Nat)] F (fun v l' => v = .int .i64 (digV c : Nat) ∧ l' = F) := by
  refine FnO.intro (n := 12) Tryd.func44 rfl rfl rfl ?_
  unfold IsHex at hc
  by_cases h : c ≤ 57
  · refine J.seq ?_
    refine J.region ?_
    refine JL.pure rfl rfl (OpP.assign rfl) ?_
    refine JL.nil ?_
    refine J.seq ?_
    refine J.seq ?_
    refine J.region ?_
    refine JL.pure rfl rfl (OpP.move rfl) ?_
    refine JL.decT rfl rfl (OpP.leq rfl rfl) (by omega) ?_
    refine JL.nil ?_
    refine J.condT rfl ?_
    refine J.seq ?_
    refine J.region ?_
    refine JL.pure rfl rfl (OpP.move rfl) ?_
    refine JL.pure rfl rfl (OpP.subK rfl rfl (by simp [IntKind.min, IntKind.max, IntKind.signed, IntKind.bits] <;> omega) (by simp [IntKind.min, IntKind.max, IntKind.signed, IntKind.bits] <;> omega)) ?_
    refine JL.pure rfl rfl (OpP.convI64 rfl (by omega) (by omega)) ?_
    refine JL.pure rfl rfl (OpP.assign rfl) ?_
    refine JL.nil ?_
    refine J.ret1 rfl rfl ?_
    rw [digV, if_pos h]
    exact ⟨by congr 1; omega, rfl⟩
  · refine J.seq ?_
    refine J.region ?_
    refine JL.pure rfl rfl (OpP.assign rfl) ?_
    refine JL.nil ?_
    refine J.seq ?_
    refine J.seq ?_
    refine J.region ?_
    refine JL.pure rfl rfl (OpP.move rfl) ?_
    refine JL.decF rfl rfl (OpP.leq rfl rfl) (by omega) ?_
    refine JL.nil ?_
    refine J.condF rfl ?_
    refine J.skip ?_
    refine J.seq ?_
    refine J.region ?_
    refine JL.pure rfl rfl (OpP.move rfl) ?_
    refine JL.pure rfl rfl (OpP.subK rfl rfl (by simp [IntKind.min, IntKind.max, IntKind.signed, IntKind.bits] <;> omega) (by simp [IntKind.min, IntKind.max, IntKind.signed, IntKind.bits] <;> omega)) ?_
    refine JL.pure rfl rfl (OpP.convI64 rfl (by omega) (by omega)) ?_
    refine JL.pure rfl rfl (OpP.addI rfl rfl (by omega) (by omega)) ?_
    refine JL.pure rfl rfl (OpP.assign rfl) ?_
    refine JL.nil ?_
    refine J.ret1 rfl rfl ?_
    rw [digV, if_neg h]
    exact ⟨by congr 1; omega, rfl⟩
theorem hex_bit (x : BitVec 32) {i k d : Nat} (hk : k < 4) (hd : d = x.toNat / 16 ^ i % 16 / 2 ^ k) : x.getLsbD (4 * i + k) = decide (d % 2 = 1) := by
  subst hd
  rw [BitVec.getLsbD, Nat.testBit_eq_decide_div_mod_eq, Nat.pow_add, Nat.pow_mul, ← Nat.div_div_eq_div_mul]
  generalize x.toNat / (2 ^ 4) ^ i = y
  have : k = 0 ∨ k = 1 ∨ k = 2 ∨ k = 3 := by omega
  rcases this with rfl | rfl | rfl | rfl <;> congr 1 <;> apply propext <;> constructor <;> intro h <;> omega
theorem Hex_ok {w0 : World} {F : List HProp} {s : ByteArray} {n : Nat} {x : BitVec 32} (hn : n < 64) (hs : ∀ i, i < 8 → ∃ c : UInt8, s[8 * n + 7 - i]? = some c ∧ IsHex c.toNat ∧ digV c.toNat = x.toNat / 16 ^ i % 16) :
    FnO Tryd.prog w0 35 [.string s, .int .i64 (n : Nat)] F (fun v l' => v = .agg (fc 32 (bitV x)).toArray ∧ l' = F) := by
  refine FnO.weak ?_
  refine FnO.intro (n := 36) Tryd.func35 rfl rfl rfl ?_
  refine J.seq ?_
  refine J.region ?_
  refine JL.mem rfl rfl OpM.alloc ?_; rintro _ _ ⟨b4, rfl, rfl⟩
  refine JL.nil ?_
  refine J.seq ?_
  refine J.region ?_
  refine JL.mem rfl rfl OpM.alloc ?_; rintro _ _ ⟨b5, rfl, rfl⟩
  refine JL.nil ?_
  refine J.seq ?_
  refine J.seq ?_
  refine J.region ?_
  refine JL.pure rfl rfl (OpP.assign rfl) ?_
  refine JL.nil ?_
  refine J.block ?_
  refine J.loopI (fun i : Nat => 8 - i) (fun i => i ≤ 8) (fun i => [(6, .int .i64 (i : Nat)), (0, .string s), (1, .int .i64 (n : Nat)), (4, .pointer (some ⟨b4, 0, none⟩)), (5, .pointer (some ⟨b5, 0, none⟩))])
    (fun i => row b5 73 (fc 32 fun j => .bool (if j < 4 * i then x.getLsbD j else false)) :: row b4 73 (List.replicate 32 (.bool false)) :: F) 0 (Nat.zero_le _) (by repeat (first | exact SubEnv.nil | refine SubEnv.cons (by first | rfl | exact congrArg (fun z => some (Value.int .i64 z)) (by omega) | (simp; done)) ?_)) (fun _ h => by dsimp only; rw [Nat.mul_zero, ← bit_zero (D := fun _ => false) (fun _ => rfl)]; exact h) (fun i hi back => ?_)
  dsimp only at hi back ⊢
  by_cases hlt : i < 8
  · obtain ⟨c, hc, hx, hd⟩ := hs i hlt
    have hc' : s[((8 : Int) * (n : Int) + 7 - (i : Int)).toNat]? = some c := by rw [show ((8 : Int) * (n : Int) + 7 - (i : Int)).toNat = 8 * n + 7 - i by omega]; exact hc
    refine J.seq ?_
    refine J.seq ?_
    refine J.region ?_
    refine JL.pure rfl rfl (OpP.move rfl) ?_
    refine JL.decT rfl rfl (OpP.lss rfl rfl) (by omega) ?_
    refine JL.nil ?_
    refine J.condT rfl ?_
    refine J.skip ?_
    refine J.seq ?_
    refine J.block ?_
    refine J.seq ?_
    refine J.region ?_
    refine JL.pure rfl rfl (OpP.move rfl) ?_
    refine JL.pure rfl rfl (OpP.move rfl) ?_
    refine JL.pure rfl rfl (OpP.mulI rfl rfl (by omega) (by omega)) ?_
    refine JL.pure rfl rfl (OpP.addI rfl rfl (by omega) (by omega)) ?_
    refine JL.pure rfl rfl (OpP.move rfl) ?_
    refine JL.pure rfl rfl (OpP.subI rfl rfl (by omega) (by omega)) ?_
    refine JL.pure rfl rfl (OpP.indexStr rfl rfl (by omega) (by assumption)) ?_
    refine JL.step rfl rfl (OpW.call (first := []) (captured := []) inferInstance rfl rfl (Digit_ok hx)) ?_; rintro r20 _ ⟨rfl, rfl⟩
    refine JL.pure rfl rfl (OpP.assign rfl) ?_
    refine JL.nil ?_
    refine J.seq ?_
    refine J.region ?_
    refine JL.pure rfl rfl (OpP.assign rfl) ?_
    refine JL.nil ?_
    refine J.block ?_
    rw [hd]
    refine J.loopI (fun k : Nat => 4 - k) (fun k => k ≤ 4) (fun k => [(8, .int .i64 (k : Nat)), (7, .int .i64 (x.toNat / 16 ^ i % 16 / 2 ^ k : Nat)), (6, .int .i64 (i : Nat)), (0, .string s), (1, .int .i64 (n : Nat)), (4, .pointer (some ⟨b4, 0, none⟩)), (5, .pointer (some ⟨b5, 0, none⟩))])
      (fun k => row b5 73 (fc 32 fun j => .bool (if j < 4 * i + k then x.getLsbD j else false)) :: row b4 73 (List.replicate 32 (.bool false)) :: F) 0 (Nat.zero_le _) (by rw [Nat.pow_zero, Nat.div_one]; exact (by repeat (first | exact SubEnv.nil | refine SubEnv.cons (by first | rfl | exact congrArg (fun z => some (Value.int .i64 z)) (by omega) | (simp; done)) ?_))) (fun _ h => h) (fun k hk back2 => ?_)
    dsimp only at hk back2 ⊢
    by_cases hkt : k < 4
    · have hb := hex_bit x (i := i) hkt rfl
      have hdn : x.toNat / 16 ^ i % 16 / 2 ^ (k + 1) = x.toNat / 16 ^ i % 16 / 2 ^ k / 2 := by rw [Nat.pow_succ, Nat.div_div_eq_div_mul]
      have hlt16 : x.toNat / 16 ^ i % 16 / 2 ^ k < 16 := Nat.lt_of_le_of_lt (Nat.div_le_self _ _) (Nat.mod_lt _ (by decide))
      generalize x.toNat / 16 ^ i % 16 / 2 ^ k = d at hb hdn hlt16 ⊢
      refine J.seq ?_
      refine J.seq ?_
      refine J.region ?_
      refine JL.pure rfl rfl (OpP.move rfl) ?_
      refine JL.decT rfl rfl (OpP.lss rfl rfl) (by omega) ?_
      refine JL.nil ?_
      refine J.condT rfl ?_
      refine J.skip ?_
      refine J.seq ?_
      refine J.block ?_
      refine J.seq ?_
      refine J.region ?_
      refine JL.pure rfl rfl (OpP.move rfl) ?_
      refine JL.pure rfl rfl (OpP.mulI rfl rfl (by omega) (by omega)) ?_
      refine JL.pure rfl rfl (OpP.move rfl) ?_
      refine JL.pure rfl rfl (OpP.addI rfl rfl (by omega) (by omega)) ?_
      refine JL.pure rfl rfl (OpP.move rfl) ?_
      refine JL.pure rfl rfl (OpP.remI rfl rfl (by omega) (by omega)) ?_
      refine JL.dec rfl rfl (OpP.eql rfl rfl) (fun h31 => ?_) (fun h31 => ?_)
      focus
        refine JL.pure rfl rfl (OpP.indexAddrF rfl rfl (by omega) (by omega)) ?_
        refine JL.mem0 rfl (by apply OpM.store1 rfl rfl rfl; (case' hu => exact .head); (case' hs => exact spl_fc rfl (by omega)); done) ?_; rintro _ _ ⟨rfl, rfl⟩
        refine JL.nil ?_
        refine J.region ?_
        refine JL.pure rfl rfl (OpP.move rfl) ?_
        refine JL.pure rfl rfl (OpP.quoI rfl rfl (by omega) (by omega) (by first | decide | (simp only [IntKind.max]; omega) | (simp [IntKind.max, IntKind.signed, IntKind.bits]; omega))) ?_
        refine JL.pure rfl rfl (OpP.assign rfl) ?_
        refine JL.nil ?_
        refine J.inBlock ?_
        refine J.region ?_
        refine JL.pure rfl rfl (OpP.move rfl) ?_
        refine JL.pure rfl rfl (OpP.addI rfl rfl (by omega) (by omega)) ?_
        refine JL.pure rfl rfl (OpP.assign rfl) ?_
        refine JL.nil ?_
      rotate_left 1
      focus
        refine JL.pure rfl rfl (OpP.indexAddrF rfl rfl (by omega) (by omega)) ?_
        refine JL.mem0 rfl (by apply OpM.store1 rfl rfl rfl; (case' hu => exact .head); (case' hs => exact spl_fc rfl (by omega)); done) ?_; rintro _ _ ⟨rfl, rfl⟩
        refine JL.nil ?_
        refine J.region ?_
        refine JL.pure rfl rfl (OpP.move rfl) ?_
        refine JL.pure rfl rfl (OpP.quoI rfl rfl (by omega) (by omega) (by first | decide | (simp only [IntKind.max]; omega) | (simp [IntKind.max, IntKind.signed, IntKind.bits]; omega))) ?_
        refine JL.pure rfl rfl (OpP.assign rfl) ?_
        refine JL.nil ?_
        refine J.inBlock ?_
        refine J.region ?_
        refine JL.pure rfl rfl (OpP.move rfl) ?_
        refine JL.pure rfl rfl (OpP.addI rfl rfl (by omega) (by omega)) ?_
        refine JL.pure rfl rfl (OpP.assign rfl) ?_
        refine JL.nil ?_
      rotate_left 1
      all_goals
        refine back2 (k + 1) (by omega) (by omega) (by rw [hdn]; exact (by repeat (first | exact SubEnv.nil | refine SubEnv.cons (by first | rfl | exact congrArg (fun z => some (Value.int .i64 z)) (by omega) | (simp; done)) ?_))) (fun _ h => ?_)
        rw [show ((4 : Int) * (i : Int) + (k : Int)).toNat = 4 * i + k by omega, upd_bit] at h
        · exact h
        · rw [hb]
          first | exact (decide_eq_true (by omega)).symm | exact (decide_eq_false (by omega)).symm
    · have : k = 4 := by omega
      subst this
      refine J.seq ?_
      refine J.seq ?_
      refine J.region ?_
      refine JL.pure rfl rfl (OpP.move rfl) ?_
      refine JL.decF rfl rfl (OpP.lss rfl rfl) (by omega) ?_
      refine JL.nil ?_
      refine J.condF rfl ?_
      refine J.exit rfl ?_
      refine J.inBlock ?_
      refine J.region ?_
      refine JL.pure rfl rfl (OpP.move rfl) ?_
      refine JL.pure rfl rfl (OpP.addI rfl rfl (by omega) (by omega)) ?_
      refine JL.pure rfl rfl (OpP.assign rfl) ?_
      refine JL.nil ?_
      exact back (i + 1) (by omega) (by omega) (by repeat (first | exact SubEnv.nil | refine SubEnv.cons (by first | rfl | exact congrArg (fun z => some (Value.int .i64 z)) (by omega) | (simp; done)) ?_)) (fun _ h => h)
  · have : i = 8 := by omega
    subst this
    rw [bit_full (D := fun _ => false) (x := x) fun _ _ => rfl]
    refine J.seq ?_
    refine J.seq ?_
    refine J.region ?_
    refine JL.pure rfl rfl (OpP.move rfl) ?_
    refine JL.decF rfl rfl (OpP.lss rfl rfl) (by omega) ?_
    refine JL.nil ?_
    refine J.condF rfl ?_
    refine J.exit rfl ?_
    refine J.seq ?_
    refine J.region ?_
    refine JL.read rfl rfl (OpR.loadN rfl (Cells.full .head) rfl) ?_
    refine JL.mem0 rfl (by apply OpM.storeN rfl rfl (fc_length _ _) (fc_one fun _ => rfl); (case' hu => exact (.tail .head)); (case' hs => exact spl_all (by rfl)); done) ?_; rintro _ _ ⟨rfl, rfl⟩
    refine JL.nil ?_
    refine J.retC rfl rfl (by apply Cells.full; (with_reducible repeat (first | exact .head | apply Has.tail))) (by rfl) ?_
    exact ⟨_, ⟨rfl, rfl⟩, fun _ h => h.tail.tail⟩
end Go.Proofs.B
