/- A text of the proof of a statement about the given program: its part BSha2. No person has read it. -/
import Derived.Test.YtecnolmpdgfnfaaDoorBSha
import Derived.Test.YtecnolmpdgfnfaaDoorJ20
-- seat b
namespace Go.Proofs.B
open Go Go.Gp Go.RowKit

abbrev Ws := Nat → BitVec 32
def sched (S : Ws) (i : Nat) : Ws := if 16 ≤ i then upd S (i % 16) (S (i % 16) + (half2 (S ((i + 1) % 16)) 7 18 3 + S ((i + 9) % 16) + half2 (S ((i + 14) % 16)) 17 19 10)) else S
theorem Next_ok {w0 : World} {F : List HProp} {g t i : Nat} {S : Ws} (hi : i < 64) :
    FnO Tryd.prog w0 55 [.pointer (some ⟨g, 0, none⟩), .int .i64 (i : Int)] (row g t (fc 16 fun j => w32 (S j)) :: F) (fun v l' => v = w32 (sched S i (i % 16)) ∧ l' = row g t (fc 16 fun j => w32 (sched S i j)) :: F) := by
  refine FnO.intro (n := 47) Tryd.func55 rfl rfl rfl ?_
  have e0 : ((i : Int) % 16).toNat = i % 16 := by omega
  have e1 : (((i : Int) + 1) % 16).toNat = (i + 1) % 16 := by omega
  have e2 : (((i : Int) + 9) % 16).toNat = (i + 9) % 16 := by omega
  have e3 : (((i : Int) + 14) % 16).toNat = (i + 14) % 16 := by omega
  by_cases h : 16 ≤ i
  · refine J.seq ?_
    refine J.region ?_
    refine JL.pure rfl rfl (OpP.assign rfl) ?_
    refine JL.nil ?_
    refine J.seq ?_
    refine J.seq ?_
    refine J.region ?_
    refine JL.pure rfl rfl (OpP.move rfl) ?_
    refine JL.decT rfl rfl (OpP.geq rfl rfl) (by omega) ?_
    refine JL.nil ?_
    refine J.condT rfl ?_
    refine J.regionD [5, 12, 20, 28] (by kernel_rfl) ?_
    refine DL.pure (i := 0) (by kernel_rfl) (by kernel_rfl) rfl rfl rfl (OpP.move rfl) ?_
    refine DL.pure (i := 1) (by kernel_rfl) (by kernel_rfl) rfl rfl rfl (OpP.move rfl) ?_
    refine DL.pure (i := 2) (by kernel_rfl) (by kernel_rfl) rfl rfl rfl (OpP.remI rfl rfl (by omega) (by omega)) ?_
    refine DL.pure (i := 3) (by kernel_rfl) (by kernel_rfl) rfl rfl rfl (OpP.nilCheck rfl) ?_
    refine DL.pure (i := 4) (by kernel_rfl) (by kernel_rfl) rfl rfl rfl (OpP.indexAddrF rfl rfl (by omega) (by omega)) ?_
    refine DL.read (i := 5) (by kernel_rfl) (by kernel_rfl) rfl rfl rfl (fun _ h => h) (OpR.load1 rfl (cell_fc .head rfl (by omega))) ?_
    refine DL.pure (i := 6) (by kernel_rfl) (by kernel_rfl) rfl rfl rfl (OpP.move rfl) ?_
    refine DL.pure (i := 7) (by kernel_rfl) (by kernel_rfl) rfl rfl rfl (OpP.move rfl) ?_
    refine DL.pure (i := 8) (by kernel_rfl) (by kernel_rfl) rfl rfl rfl (OpP.addI rfl rfl (by omega) (by omega)) ?_
    refine DL.pure (i := 9) (by kernel_rfl) (by kernel_rfl) rfl rfl rfl (OpP.remI rfl rfl (by omega) (by omega)) ?_
    refine DL.pure (i := 10) (by kernel_rfl) (by kernel_rfl) rfl rfl rfl (OpP.nilCheck rfl) ?_
    refine DL.pure (i := 11) (by kernel_rfl) (by kernel_rfl) rfl rfl rfl (OpP.indexAddrF rfl rfl (by omega) (by omega)) ?_
    refine DL.read (i := 12) (by kernel_rfl) (by kernel_rfl) rfl rfl rfl (fun _ h => h) (OpR.load1 rfl (cell_fc .head rfl (by omega))) ?_
    refine DL.pure (i := 14) (by kernel_rfl) (by kernel_rfl) rfl rfl rfl (OpP.move rfl) ?_
    refine DL.pure (i := 15) (by kernel_rfl) (by kernel_rfl) rfl rfl rfl (OpP.move rfl) ?_
    refine DL.pure (i := 16) (by kernel_rfl) (by kernel_rfl) rfl rfl rfl (OpP.addI rfl rfl (by omega) (by omega)) ?_
    refine DL.pure (i := 17) (by kernel_rfl) (by kernel_rfl) rfl rfl rfl (OpP.remI rfl rfl (by omega) (by omega)) ?_
    refine DL.pure (i := 18) (by kernel_rfl) (by kernel_rfl) rfl rfl rfl (OpP.nilCheck rfl) ?_
    refine DL.pure (i := 19) (by kernel_rfl) (by kernel_rfl) rfl rfl rfl (OpP.indexAddrF rfl rfl (by omega) (by omega)) ?_
    refine DL.read (i := 20) (by kernel_rfl) (by kernel_rfl) rfl rfl rfl (fun _ h => h) (OpR.load1 rfl (cell_fc .head rfl (by omega))) ?_
    refine DL.pure (i := 22) (by kernel_rfl) (by kernel_rfl) rfl rfl rfl (OpP.move rfl) ?_
    refine DL.pure (i := 23) (by kernel_rfl) (by kernel_rfl) rfl rfl rfl (OpP.move rfl) ?_
    refine DL.pure (i := 24) (by kernel_rfl) (by kernel_rfl) rfl rfl rfl (OpP.addI rfl rfl (by omega) (by omega)) ?_
    refine DL.pure (i := 25) (by kernel_rfl) (by kernel_rfl) rfl rfl rfl (OpP.remI rfl rfl (by omega) (by omega)) ?_
    refine DL.pure (i := 26) (by kernel_rfl) (by kernel_rfl) rfl rfl rfl (OpP.nilCheck rfl) ?_
    refine DL.pure (i := 27) (by kernel_rfl) (by kernel_rfl) rfl rfl rfl (OpP.indexAddrF rfl rfl (by omega) (by omega)) ?_
    refine DL.read (i := 28) (by kernel_rfl) (by kernel_rfl) rfl rfl rfl (fun _ h => h) (OpR.load1 rfl (cell_fc .head rfl (by omega))) ?_
    refine DL.pure (i := 32) (by kernel_rfl) (by kernel_rfl) rfl rfl rfl (OpP.nilCheck rfl) ?_
    refine DL.only (i := 13) (by kernel_rfl) ?_
    refine DL1.stepK rfl rfl rfl (by exact OpW.call (first := []) (captured := []) inferInstance rfl rfl (Half_ok (a := 7) (b := 18) (c := 3) (by decide) (by decide) (by decide) (by decide) (by decide) (by decide))) (by rintro _ _ ⟨rfl, rfl⟩ _ h; exact Own.pick (pre := [_]) [0] rfl h) ?_; rintro r20 _ ⟨rfl, rfl⟩
    refine DL.pure (i := 21) (by kernel_rfl) (by kernel_rfl) rfl rfl rfl (OpP.wAdd rfl rfl) ?_
    refine DL.only (i := 29) (by kernel_rfl) ?_
    refine DL1.stepK rfl rfl rfl (by exact OpW.call (first := []) (captured := []) inferInstance rfl rfl (Half_ok (a := 17) (b := 19) (c := 10) (by decide) (by decide) (by decide) (by decide) (by decide) (by decide))) (by rintro _ _ ⟨rfl, rfl⟩ _ h; exact Own.pick (pre := [_]) [0] rfl h) ?_; rintro r36 _ ⟨rfl, rfl⟩
    refine DL.pure (i := 30) (by kernel_rfl) (by kernel_rfl) rfl rfl rfl (OpP.wAdd rfl rfl) ?_
    refine DL.pure (i := 31) (by kernel_rfl) (by kernel_rfl) rfl rfl rfl (OpP.wAdd rfl rfl) ?_
    refine DL.pure (i := 33) (by kernel_rfl) (by kernel_rfl) rfl rfl rfl (OpP.indexAddrF rfl rfl (by omega) (by omega)) ?_
    refine DL.only (i := 34) (by kernel_rfl) ?_
    refine DL1.stepF0 rfl rfl (by kernel_rfl) (OpM.w (by apply OpM.store1 rfl rfl rfl; (case' hu => exact .head); (case' hs => exact spl_fcW rfl (by omega)); done)) ?_; rintro _ _ ⟨rfl, rfl⟩
    refine DL.done (by kernel_rfl) ?_
    refine J.seq ?_
    refine J.region ?_
    refine JL.pure rfl rfl (OpP.move rfl) ?_
    refine JL.pure rfl rfl (OpP.move rfl) ?_
    refine JL.pure rfl rfl (OpP.remI rfl rfl (by omega) (by omega)) ?_
    refine JL.pure rfl rfl (OpP.nilCheck rfl) ?_
    refine JL.pure rfl rfl (OpP.indexAddrF rfl rfl (by omega) (by omega)) ?_
    refine JL.read rfl rfl (OpR.load1 rfl (cell_fc .head rfl (by omega))) ?_
    refine JL.pure rfl rfl (OpP.assign rfl) ?_
    refine JL.nil ?_
    refine J.ret1 rfl rfl ?_
    rw [e0, e1, e2, e3, sched, if_pos h]
    exact ⟨rfl, rfl⟩
  · refine J.seq ?_
    refine J.region ?_
    refine JL.pure rfl rfl (OpP.assign rfl) ?_
    refine JL.nil ?_
    refine J.seq ?_
    refine J.seq ?_
    refine J.region ?_
    refine JL.pure rfl rfl (OpP.move rfl) ?_
    refine JL.decF rfl rfl (OpP.geq rfl rfl) (by omega) ?_
    refine JL.nil ?_
    refine J.condF rfl ?_
    refine J.skip ?_
    refine J.seq ?_
    refine J.region ?_
    refine JL.pure rfl rfl (OpP.move rfl) ?_
    refine JL.pure rfl rfl (OpP.move rfl) ?_
    refine JL.pure rfl rfl (OpP.remI rfl rfl (by omega) (by omega)) ?_
    refine JL.pure rfl rfl (OpP.nilCheck rfl) ?_
    refine JL.pure rfl rfl (OpP.indexAddrF rfl rfl (by omega) (by omega)) ?_
    refine JL.read rfl rfl (OpR.load1 rfl (cell_fc .head rfl (by omega))) ?_
    refine JL.pure rfl rfl (OpP.assign rfl) ?_
    refine JL.nil ?_
    refine J.ret1 rfl rfl ?_
    rw [e0, sched, if_neg h]
    exact ⟨rfl, rfl⟩
def begins : Ws := fun j => [0x6a09e667, 0xbb67ae85, 0x3c6ef372, 0xa54ff53a, 0x510e527f, 0x9b05688c, 0x1f83d9ab, 0x5be0cd19].getD j 0
theorem Begin_ok {w0 : World} {F : List HProp} {g t : Nat} {V : Ws} {post : List Value} :
    FnO Tryd.prog w0 37 [.pointer (some ⟨g, 0, none⟩)] (row g t (fc 8 (fun j => w32 (V j)) ++ post) :: F) (fun _ l' => l' = row g t (fc 8 (fun j => w32 (begins j)) ++ post) :: F) := by
  refine FnO.intro (n := 6) Tryd.func37 rfl rfl rfl ?_
  refine J.region ?_
  refine JL.pure rfl rfl (OpP.move rfl) ?_
  refine JL.pure rfl rfl (OpP.buildA rfl (by (repeat (first | exact Fills.nil | (apply Fills.cons rfl rfl rfl; (case' hs => ((repeat (first | exact Spl.nil | apply Spl.here | apply Spl.there)); done))))))) ?_
  refine JL.pure rfl rfl (OpP.nilCheck rfl) ?_
  refine JL.pure rfl rfl (OpP.fieldAddr rfl) ?_
  refine JL.mem0 rfl (by apply OpM.storeN rfl rfl (by rfl) (oneC rfl (oneC rfl (oneC rfl (oneC rfl (oneC rfl (oneC rfl (oneC rfl (one1 rfl)))))))); (case' hu => exact .head); (case' hs => exact (.here (.here (.here (.here (.here (.here (.here (.here .nil))))))))); done) ?_; rintro _ _ ⟨rfl, rfl⟩
  refine JL.nil ?_
  refine J.fin0 rfl ?_
  rfl
def byteOf (V : Ws) (j : Nat) : Value := u8c (UInt8.ofBitVec ((V (j / 4) >>> (24 - 8 * (j % 4))).setWidth 8))
theorem Told_ok {w0 : World} {F : List HProp} {g t : Nat} {V : Ws} {post : List Value} :
    FnO Tryd.prog w0 39 [.pointer (some ⟨g, 0, none⟩)] (row g t (fc 8 (fun j => w32 (V j)) ++ post) :: F) (fun v l' => v = .agg (fc 32 (byteOf V)).toArray ∧ l' = row g t (fc 8 (fun j => w32 (V j)) ++ post) :: F) := by
  refine FnO.weak ?_
  refine FnO.intro (n := 32) Tryd.func39 rfl rfl rfl ?_
  refine J.seq ?_
  refine J.region ?_
  refine JL.mem rfl rfl OpM.alloc ?_; rintro _ _ ⟨b2, rfl, rfl⟩
  refine JL.nil ?_
  refine J.seq ?_
  refine J.region ?_
  refine JL.mem rfl rfl OpM.alloc ?_; rintro _ _ ⟨b3, rfl, rfl⟩
  refine JL.nil ?_
  refine J.seq ?_
  refine J.seq ?_
  refine J.region ?_
  refine JL.pure rfl rfl (OpP.move rfl) ?_
  refine JL.pure rfl rfl (OpP.nilCheck rfl) ?_
  refine JL.pure rfl rfl (OpP.fieldAddr rfl) ?_
  refine JL.read rfl rfl (OpR.loadN rfl (cells_fcP (.tail (.tail .head))) rfl) ?_
  refine JL.pure rfl rfl (OpP.move rfl) ?_
  refine JL.nil ?_
  refine J.block ?_
  refine J.loopI (fun i : Nat => 8 - i) (fun i => i ≤ 8) (fun i => [(11, .int .i64 (i : Nat)), (10, .agg (fc 8 fun j => w32 (V j)).toArray), (3, .pointer (some ⟨b3, 0, none⟩)), (2, .pointer (some ⟨b2, 0, none⟩))])
    (fun i => row b3 26 (fc 32 fun j => if j < 4 * i then byteOf V j else .int .u8 0) :: row b2 26 (List.replicate 32 (.int .u8 0)) :: row g t ((fc 8 fun j => w32 (V j)) ++ post) :: F) 0 (Nat.zero_le _) (by repeat (first | exact SubEnv.nil | refine SubEnv.cons (by first | rfl | exact congrArg (fun z => some (Value.int .i64 z)) (by omega) | (simp; done)) ?_)) (fun _ h => by dsimp only; rw [← fc_rep (v := .int .u8 0) (fun j _ => by simp)]; exact h) (fun i hi back => ?_)
  dsimp only at hi back ⊢
  by_cases hlt : i < 8
  · refine J.seq ?_
    refine J.region ?_
    refine JL.decT rfl rfl (OpP.lss rfl rfl) (by omega) ?_
    refine JL.nil ?_
    refine J.seq ?_
    refine J.condT rfl ?_
    refine J.skip ?_
    refine J.seq ?_
    refine J.block ?_
    refine J.seq ?_
    refine J.region ?_
    refine JL.pure rfl rfl (OpP.move rfl) ?_
    refine JL.pure rfl rfl (OpP.indexFc rfl rfl (by omega)) ?_
    refine JL.pure rfl rfl (OpP.assign rfl) ?_
    refine JL.pure rfl rfl (OpP.assign rfl) ?_
    refine JL.nil ?_
    refine J.seq ?_
    refine J.region ?_
    refine JL.pure rfl rfl (OpP.move rfl) ?_
    refine JL.nil ?_
    refine J.block ?_
    refine J.loopI (fun k : Nat => 4 - k) (fun k => k ≤ 4) (fun k => [(15, .int .i64 (k : Nat)), (5, w32 (V i)), (4, .int .i64 (i : Nat)), (11, .int .i64 (i : Nat)), (10, .agg (fc 8 fun j => w32 (V j)).toArray), (3, .pointer (some ⟨b3, 0, none⟩)), (2, .pointer (some ⟨b2, 0, none⟩))])
      (fun k => row b3 26 (fc 32 fun j => if j < 4 * i + k then byteOf V j else .int .u8 0) :: row b2 26 (List.replicate 32 (.int .u8 0)) :: row g t ((fc 8 fun j => w32 (V j)) ++ post) :: F) 0 (Nat.zero_le _) (by repeat (first | exact SubEnv.nil | refine SubEnv.cons (by first | rfl | exact congrArg (fun z => some (Value.int .i64 z)) (by omega) | (simp; done)) ?_)) (fun _ h => h) (fun k hk back2 => ?_)
    dsimp only at hk back2 ⊢
    by_cases hkt : k < 4
    · refine J.seq ?_
      refine J.region ?_
      refine JL.decT rfl rfl (OpP.lss rfl rfl) (by omega) ?_
      refine JL.nil ?_
      refine J.seq ?_
      refine J.condT rfl ?_
      refine J.skip ?_
      refine J.seq ?_
      refine J.block ?_
      refine J.seq ?_
      refine J.region ?_
      refine JL.pure rfl rfl (OpP.move rfl) ?_
      refine JL.pure rfl rfl (OpP.assign rfl) ?_
      refine JL.nil ?_
      refine J.region ?_
      refine JL.pure rfl rfl (OpP.move rfl) ?_
      refine JL.pure rfl rfl (OpP.mulI rfl rfl (by omega) (by omega)) ?_
      refine JL.pure rfl rfl (OpP.move rfl) ?_
      refine JL.pure rfl rfl (OpP.addI rfl rfl (by omega) (by omega)) ?_
      refine JL.pure rfl rfl (OpP.move rfl) ?_
      refine JL.pure rfl rfl (OpP.move rfl) ?_
      refine JL.pure rfl rfl (OpP.mulI rfl rfl (by omega) (by omega)) ?_
      refine JL.pure rfl rfl (OpP.subI rfl rfl (by omega) (by omega)) ?_
      refine JL.pure rfl rfl (OpP.wShrI rfl rfl (by omega) (by omega)) ?_
      refine JL.pure rfl rfl (OpP.wToByte rfl) ?_
      refine JL.pure rfl rfl (OpP.indexAddrF rfl rfl (by omega) (by omega)) ?_
      refine JL.mem0 rfl (by apply OpM.store1 rfl rfl rfl; (case' hu => exact .head); (case' hs => exact spl_fc rfl (by omega)); done) ?_; rintro _ _ ⟨rfl, rfl⟩
      refine JL.nil ?_
      refine J.inBlock ?_
      refine J.region ?_
      refine JL.pure rfl rfl (OpP.addI rfl rfl (by omega) (by omega)) ?_
      refine JL.pure rfl rfl (OpP.move rfl) ?_
      refine JL.nil ?_
      refine back2 (k + 1) (by omega) (by omega) (by repeat (first | exact SubEnv.nil | refine SubEnv.cons (by first | rfl | exact congrArg (fun z => some (Value.int .i64 z)) (by omega) | (simp; done)) ?_)) (fun _ h => ?_)
      have e : (fc 32 fun j => if j < 4 * i + (k + 1) then byteOf V j else Value.int .u8 0) = fc 32 (upd (fun j => if j < 4 * i + k then byteOf V j else Value.int .u8 0) (4 * (i : Int) + (k : Int)).toNat (u8c (UInt8.ofBitVec ((V i >>> (24 - 8 * (k : Int)).toNat).setWidth 8)))) := by
        have e1 : (4 * (i : Int) + (k : Int)).toNat = 4 * i + k := by omega
        have e2 : (24 - 8 * (k : Int)).toNat = 24 - 8 * k := by omega
        refine fc_congr fun j _ => ?_
        rw [e1, e2]
        unfold upd
        by_cases hj : j = 4 * i + k
        · subst hj
          rw [if_pos rfl, if_pos (by omega), byteOf, show (4 * i + k) / 4 = i by omega, show (4 * i + k) % 4 = k by omega]
        · rw [if_neg hj]
          dsimp only
          by_cases h2 : j < 4 * i + k
          · rw [if_pos h2, if_pos (by omega)]
          · rw [if_neg h2, if_neg (by omega)]
      rw [e]
      exact h
    · have : k = 4 := by omega
      subst this
      refine J.seq ?_
      refine J.region ?_
      refine JL.decF rfl rfl (OpP.lss rfl rfl) (by omega) ?_
      refine JL.nil ?_
      refine J.seq ?_
      refine J.condF rfl ?_
      refine J.exit rfl ?_
      refine J.inBlock ?_
      refine J.region ?_
      refine JL.pure rfl rfl (OpP.addI rfl rfl (by omega) (by omega)) ?_
      refine JL.pure rfl rfl (OpP.move rfl) ?_
      refine JL.nil ?_
      exact back (i + 1) (by omega) (by omega) (by repeat (first | exact SubEnv.nil | refine SubEnv.cons (by first | rfl | exact congrArg (fun z => some (Value.int .i64 z)) (by omega) | (simp; done)) ?_)) (fun _ h => h)
  · have : i = 8 := by omega
    subst this
    rw [show (fc 32 fun j => if j < 4 * 8 then byteOf V j else Value.int .u8 0) = fc 32 (byteOf V) from fc_congr fun j hj => if_pos hj]
    refine J.seq ?_
    refine J.region ?_
    refine JL.decF rfl rfl (OpP.lss rfl rfl) (by omega) ?_
    refine JL.nil ?_
    refine J.seq ?_
    refine J.condF rfl ?_
    refine J.exit rfl ?_
    refine J.seq ?_
    refine J.region ?_
    refine JL.read rfl rfl (OpR.loadN rfl (Cells.full .head) rfl) ?_
    refine JL.mem0 rfl (by apply OpM.storeN rfl rfl (fc_length _ _) (fc_one fun _ => rfl); (case' hu => exact (.tail .head)); (case' hs => exact spl_all (by rfl)); done) ?_; rintro _ _ ⟨rfl, rfl⟩
    refine JL.nil ?_
    refine J.retC rfl rfl (by apply Cells.full; (with_reducible repeat (first | exact .head | apply Has.tail))) (by rfl) ?_
    exact ⟨_, ⟨rfl, rfl⟩, fun _ h => Own.pick (pre := [_, _]) [] rfl h⟩
end Go.Proofs.B
