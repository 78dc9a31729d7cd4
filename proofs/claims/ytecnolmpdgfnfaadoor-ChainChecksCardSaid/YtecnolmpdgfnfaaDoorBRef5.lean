/- A text of the proof of a statement about the given program: its part BRef5. No person has read it. -/
import Derived.Test.YtecnolmpdgfnfaaDoorBRef4
import Derived.Test.YtecnolmpdgfnfaaDoorJ24
-- seat b
namespace Go.Proofs.B
open Go Go.Gp Go.RowKit

theorem refR_list (K W V : Ws) (i : Nat) : (fB 8 fun j => [refT K W i V + (turn3 (V 0) 2 13 22 + (V 0 &&& V 1 ||| V 2 &&& (V 0 ||| V 1))), V 0, V 1, V 2, V 3 + refT K W i V, V 4, V 5, V 6].getD j 0) = fB 8 (refR K W i V) :=
  fB_congr fun j hj => by
    match j, hj with
    | 0, _ => rfl
    | 1, _ => rfl
    | 2, _ => rfl
    | 3, _ => rfl
    | 4, _ => rfl
    | 5, _ => rfl
    | 6, _ => rfl
    | 7, _ => rfl
set_option maxHeartbeats 1000000 in
theorem Block_ok {w0 : World} {F : List HProp} {bs : List UInt8} {U K : Ws} {v : Value} (hK : ∀ i, i < 64 → hexOk constS i (K i) = true) (hbs : bs.length = 64) (hr : RdO w0 F v 64 (bcells bs)) :
    FnO Tryd.prog w0 36 [.agg (fB 8 U).toArray, v] F (fun r l' => r = .agg (fB 8 (mixW K U bs)).toArray ∧ l' = F) := by
  refine FnO.rd hr fun hr => ?_
  obtain ⟨va, vc, rfl⟩ := hr.lit
  refine FnO.weak ?_
  refine FnO.intro (n := 102) Tryd.func36 rfl rfl rfl ?_
  refine J.seq ?_
  refine J.region ?_
  refine JL.mem rfl rfl (OpM.box rfl rfl) ?_; rintro _ _ ⟨b2, rfl, rfl⟩
  refine JL.mem rfl rfl OpM.alloc ?_; rintro _ _ ⟨b4, rfl, rfl⟩
  refine JL.nil ?_
  refine J.seq ?_
  refine J.region ?_
  refine JL.pure rfl rfl (OpP.move rfl) ?_
  refine JL.step rfl rfl (OpW.call (first := []) (captured := []) inferInstance rfl rfl (Row_ok hbs (hr.o.conv fun _ h => Own.pick (pre := [_, _]) [] rfl h))) ?_; rintro r13 _ ⟨a, ⟨c, ⟨rfl, rfl⟩⟩⟩
  refine JL.pure rfl rfl (OpP.assign rfl) ?_
  refine JL.nil ?_
  refine J.seq ?_
  refine J.region ?_
  refine JL.read rfl rfl (OpR.loadN rfl (Cells.full (.tail (.tail .head))) (fB_length _ _)) ?_
  refine JL.mem rfl rfl OpM.alloc ?_; rintro _ _ ⟨b6, rfl, rfl⟩
  refine JL.mem0 rfl (by apply OpM.storeN rfl rfl (fB_length _ _) fB_one; (case' hu => exact .head); (case' hs => exact spl_all (by first | (rw [fB_length, List.length_replicate]; done) | (rw [fB_length, fB_length]; done) | (rw [fB_length, List.length_replicate]; rfl))); done) ?_; rintro _ _ ⟨rfl, rfl⟩
  refine JL.nil ?_
  refine J.seq ?_
  refine J.seq ?_
  refine J.region ?_
  refine JL.pure rfl rfl (OpP.assign rfl) ?_
  refine JL.nil ?_
  refine J.block ?_
  refine J.loopI (fun i : Nat => 64 - i) (fun i => i ≤ 64) (fun i => [(7, .int .i64 (i : Nat)), (5, .slice a 64 c), (2, .pointer (some ⟨b2, 0, none⟩)), (4, .pointer (some ⟨b4, 0, none⟩)), (6, .pointer (some ⟨b6, 0, none⟩))])
    (fun i => row b6 74 (fB 8 (refRs K (Wd (loadW bs 64)) U i)) :: own 73 32 (.slice a 64 c) 64 (fB 64 (Wd (loadW bs 64))) :: row b2 74 (fB 8 U) :: row b4 74 (List.replicate 256 (.bool false)) :: F) 0 (Nat.zero_le _) (by repeat (first | exact SubEnv.nil | refine SubEnv.cons (by first | rfl | exact congrArg (fun z => some (Value.int .i64 z)) (by omega) | (simp; done)) ?_)) (fun _ h => Own.pick (pre := [_, _, _, _]) [0, 1, 3, 2] rfl h) (fun i hi back => ?_)
  dsimp only at hi back ⊢
  by_cases hlt : i < 64
  · have hRs : refRs K (Wd (loadW bs 64)) U (i + 1) = refR K (Wd (loadW bs 64)) i (refRs K (Wd (loadW bs 64)) U i) := rfl
    generalize Wd (loadW bs 64) = W at hRs back ⊢
    generalize refRs K W U i = V at hRs ⊢
    refine J.seq ?_
    refine J.seq ?_
    refine J.region ?_
    refine JL.pure rfl rfl (OpP.move rfl) ?_
    refine JL.decT rfl rfl (OpP.lss rfl rfl) (by omega) ?_
    refine JL.nil ?_
    refine J.condT rfl ?_
    refine J.skip ?_
    refine J.seq ?_
    refine J.block ?_
    refine J.seq ?_
    refine J.cut (σ := Nat) (fun _ => True) (fun b8 => [(7, .int .i64 (i : Nat)), (5, .slice a 64 c), (2, .pointer (some ⟨b2, 0, none⟩)), (4, .pointer (some ⟨b4, 0, none⟩)), (6, .pointer (some ⟨b6, 0, none⟩)), (8, .pointer (some ⟨b8, 0, none⟩))]) (fun b8 => row b8 73 (fc 32 (bitV (turn3 (V 4) 6 11 25))) :: row b6 74 (fB 8 V) :: own 73 32 (.slice a 64 c) 64 (fB 64 W) :: row b2 74 (fB 8 U) :: row b4 74 (List.replicate 256 (.bool false)) :: F) (fun b8 _ => ?_) (fun k' go => ?_)
    · refine J.seq ?_
      refine J.cut (σ := Nat) (fun _ => True) (fun b9 => [(7, .int .i64 (i : Nat)), (5, .slice a 64 c), (2, .pointer (some ⟨b2, 0, none⟩)), (4, .pointer (some ⟨b4, 0, none⟩)), (6, .pointer (some ⟨b6, 0, none⟩)), (9, .pointer (some ⟨b9, 0, none⟩))]) (fun b9 => row b9 73 (fc 32 (bitV (refT K W i V))) :: row b6 74 (fB 8 V) :: own 73 32 (.slice a 64 c) 64 (fB 64 W) :: row b2 74 (fB 8 U) :: row b4 74 (List.replicate 256 (.bool false)) :: F) (fun b9 _ => ?_) (fun k' go => ?_)
      · refine J.seq ?_
        refine J.cut (σ := Nat) (fun _ => True) (fun b10 => [(7, .int .i64 (i : Nat)), (5, .slice a 64 c), (2, .pointer (some ⟨b2, 0, none⟩)), (4, .pointer (some ⟨b4, 0, none⟩)), (6, .pointer (some ⟨b6, 0, none⟩)), (9, .pointer (some ⟨b9, 0, none⟩)), (10, .pointer (some ⟨b10, 0, none⟩))]) (fun b10 => row b10 73 (fc 32 (bitV (turn3 (V 0) 2 13 22))) :: row b9 73 (fc 32 (bitV (refT K W i V))) :: row b6 74 (fB 8 V) :: own 73 32 (.slice a 64 c) 64 (fB 64 W) :: row b2 74 (fB 8 U) :: row b4 74 (List.replicate 256 (.bool false)) :: F) (fun b10 _ => ?_) (fun k' go => ?_)
        · refine J.seq ?_
          refine J.regionD [0, 2, 4, 6] (by kernel_rfl) ?_
          refine DL.read (i := 0) (by kernel_rfl) (by kernel_rfl) rfl rfl rfl (fun _ h => h) (OpR.loadN rfl (Cells.full .head) rfl) ?_
          refine DL.pure (i := 1) (by kernel_rfl) (by kernel_rfl) rfl rfl rfl (OpP.indexAddrA rfl rfl (by omega) (by omega)) ?_
          refine DL.read (i := 2) (by kernel_rfl) (by kernel_rfl) rfl rfl rfl (fun _ h => h) (OpR.loadN rfl (Cells.fB (.tail (.tail .head)) (by omega)) (fc_length _ _)) ?_
          refine DL.pure (i := 3) (by kernel_rfl) (by kernel_rfl) rfl rfl rfl (OpP.indexAddrA rfl rfl (by omega) (by omega)) ?_
          refine DL.read (i := 4) (by kernel_rfl) (by kernel_rfl) rfl rfl rfl (fun _ h => h) (OpR.loadN rfl (Cells.fB (.tail (.tail .head)) (by omega)) (fc_length _ _)) ?_
          refine DL.pure (i := 5) (by kernel_rfl) (by kernel_rfl) rfl rfl rfl (OpP.indexAddrA rfl rfl (by omega) (by omega)) ?_
          refine DL.read (i := 6) (by kernel_rfl) (by kernel_rfl) rfl rfl rfl (fun _ h => h) (OpR.loadN rfl (Cells.fB (.tail (.tail .head)) (by omega)) (fc_length _ _)) ?_
          refine DL.only (i := 7) (by kernel_rfl) ?_
          refine DL1.stepK rfl rfl rfl (by exact OpW.call (first := []) (captured := []) inferInstance rfl rfl Most_ok) (by rintro _ _ ⟨rfl, rfl⟩ _ h; exact Own.pick (pre := [_, _, _, _, _, _]) [0, 1, 2, 3, 4, 5] rfl h) ?_; rintro r66 _ ⟨rfl, rfl⟩
          refine DL.only (i := 8) (by kernel_rfl) ?_
          refine DL1.stepF rfl rfl rfl (by kernel_rfl) (by exact OpW.call (first := []) (captured := []) inferInstance rfl rfl Plus_ok) ?_; rintro r67 _ ⟨rfl, rfl⟩
          refine DL.only (i := 9) (by kernel_rfl) ?_
          refine DL1.stepF0 rfl rfl (by kernel_rfl) (OpM.w (by apply OpM.storeN rfl rfl (fc_length _ _) (fc_one fun _ => rfl); (case' hu => exact .head); (case' hs => exact spl_all (by rfl)); done)) ?_; rintro _ _ ⟨rfl, rfl⟩
          refine DL.done (by kernel_rfl) ?_
          refine J.regionD [0, 1, 4, 6, 8, 10, 11, 14, 16, 18] (by kernel_rfl) ?_
          refine DL.read (i := 0) (by kernel_rfl) (by kernel_rfl) rfl rfl rfl (fun _ h => h) (OpR.loadN rfl (Cells.full (.tail .head)) rfl) ?_
          refine DL.read (i := 1) (by kernel_rfl) (by kernel_rfl) rfl rfl rfl (fun _ h => h) (OpR.loadN rfl (Cells.full .head) rfl) ?_
          refine DL.pure (i := 3) (by kernel_rfl) (by kernel_rfl) rfl rfl rfl (OpP.indexAddrA rfl rfl (by omega) (by omega)) ?_
          refine DL.read (i := 4) (by kernel_rfl) (by kernel_rfl) rfl rfl rfl (fun _ h => h) (OpR.loadN rfl (Cells.fB (.tail (.tail .head)) (by omega)) (fc_length _ _)) ?_
          refine DL.pure (i := 5) (by kernel_rfl) (by kernel_rfl) rfl rfl rfl (OpP.indexAddrA rfl rfl (by omega) (by omega)) ?_
          refine DL.read (i := 6) (by kernel_rfl) (by kernel_rfl) rfl rfl rfl (fun _ h => h) (OpR.loadN rfl (Cells.fB (.tail (.tail .head)) (by omega)) (fc_length _ _)) ?_
          refine DL.pure (i := 7) (by kernel_rfl) (by kernel_rfl) rfl rfl rfl (OpP.indexAddrA rfl rfl (by omega) (by omega)) ?_
          refine DL.read (i := 8) (by kernel_rfl) (by kernel_rfl) rfl rfl rfl (fun _ h => h) (OpR.loadN rfl (Cells.fB (.tail (.tail .head)) (by omega)) (fc_length _ _)) ?_
          refine DL.pure (i := 9) (by kernel_rfl) (by kernel_rfl) rfl rfl rfl (OpP.indexAddrA rfl rfl (by omega) (by omega)) ?_
          refine DL.read (i := 10) (by kernel_rfl) (by kernel_rfl) rfl rfl rfl (fun _ h => h) (OpR.loadN rfl (Cells.fB (.tail (.tail .head)) (by omega)) (fc_length _ _)) ?_
          refine DL.read (i := 11) (by kernel_rfl) (by kernel_rfl) rfl rfl rfl (fun _ h => h) (OpR.loadN rfl (Cells.full (.tail .head)) rfl) ?_
          refine DL.pure (i := 13) (by kernel_rfl) (by kernel_rfl) rfl rfl rfl (OpP.indexAddrA rfl rfl (by omega) (by omega)) ?_
          refine DL.read (i := 14) (by kernel_rfl) (by kernel_rfl) rfl rfl rfl (fun _ h => h) (OpR.loadN rfl (Cells.fB (.tail (.tail .head)) (by omega)) (fc_length _ _)) ?_
          refine DL.pure (i := 15) (by kernel_rfl) (by kernel_rfl) rfl rfl rfl (OpP.indexAddrA rfl rfl (by omega) (by omega)) ?_
          refine DL.read (i := 16) (by kernel_rfl) (by kernel_rfl) rfl rfl rfl (fun _ h => h) (OpR.loadN rfl (Cells.fB (.tail (.tail .head)) (by omega)) (fc_length _ _)) ?_
          refine DL.pure (i := 17) (by kernel_rfl) (by kernel_rfl) rfl rfl rfl (OpP.indexAddrA rfl rfl (by omega) (by omega)) ?_
          refine DL.read (i := 18) (by kernel_rfl) (by kernel_rfl) rfl rfl rfl (fun _ h => h) (OpR.loadN rfl (Cells.fB (.tail (.tail .head)) (by omega)) (fc_length _ _)) ?_
          refine DL.only (i := 2) (by kernel_rfl) ?_
          refine DL1.stepK rfl rfl rfl (by exact OpW.call (first := []) (captured := []) inferInstance rfl rfl Plus_ok) (by rintro _ _ ⟨rfl, rfl⟩ _ h; exact Own.pick (pre := [_, _, _, _, _, _]) [0, 1, 2, 3, 4, 5] rfl h) ?_; rintro r70 _ ⟨rfl, rfl⟩
          refine DL.only (i := 12) (by kernel_rfl) ?_
          refine DL1.stepK rfl rfl rfl (by exact OpW.call (first := []) (captured := []) inferInstance rfl rfl Plus_ok) (by rintro _ _ ⟨rfl, rfl⟩ _ h; exact Own.pick (pre := [_, _, _, _, _, _]) [0, 1, 2, 3, 4, 5] rfl h) ?_; rintro r80 _ ⟨rfl, rfl⟩
          refine DL.pure (i := 19) (by kernel_rfl) (by kernel_rfl) rfl rfl rfl (OpP.buildB8 (by exact List.length_replicate) rfl) ?_
          refine DL.only (i := 20) (by kernel_rfl) ?_
          refine DL1.stepF0 rfl rfl (by kernel_rfl) (OpM.w (by apply OpM.storeN rfl rfl (fB_length _ _) fB_one; (case' hu => exact (.tail (.tail .head))); (case' hs => exact spl_all (by first | (rw [fB_length, List.length_replicate]; done) | (rw [fB_length, fB_length]; done) | (rw [fB_length, List.length_replicate]; rfl))); done)) ?_; rintro _ _ ⟨rfl, rfl⟩
          refine DL.done (by kernel_rfl) ?_
          refine J.inBlock ?_
          refine J.region ?_
          refine JL.pure rfl rfl (OpP.move rfl) ?_
          refine JL.pure rfl rfl (OpP.addI rfl rfl (by omega) (by omega)) ?_
          refine JL.pure rfl rfl (OpP.assign rfl) ?_
          refine JL.nil ?_
          refine back (i + 1) (by omega) (by omega) (by repeat (first | exact SubEnv.nil | refine SubEnv.cons (by first | rfl | exact congrArg (fun z => some (Value.int .i64 z)) (by omega) | (simp; done)) ?_)) (fun _ h => ?_)
          rw [hRs, ← refR_list]
          exact Own.pick (pre := [_, _, _, _]) [2, 3] rfl h
        · refine J.regionD [1, 4, 7] (by kernel_rfl) ?_
          refine DL.pure (i := 0) (by kernel_rfl) (by kernel_rfl) rfl rfl rfl (OpP.indexAddrA rfl rfl (by omega) (by omega)) ?_
          refine DL.read (i := 1) (by kernel_rfl) (by kernel_rfl) rfl rfl rfl (fun _ h => h) (OpR.loadN rfl (Cells.fB (.tail .head) (by omega)) (fc_length _ _)) ?_
          refine DL.pure (i := 3) (by kernel_rfl) (by kernel_rfl) rfl rfl rfl (OpP.indexAddrA rfl rfl (by omega) (by omega)) ?_
          refine DL.read (i := 4) (by kernel_rfl) (by kernel_rfl) rfl rfl rfl (fun _ h => h) (OpR.loadN rfl (Cells.fB (.tail .head) (by omega)) (fc_length _ _)) ?_
          refine DL.pure (i := 6) (by kernel_rfl) (by kernel_rfl) rfl rfl rfl (OpP.indexAddrA rfl rfl (by omega) (by omega)) ?_
          refine DL.read (i := 7) (by kernel_rfl) (by kernel_rfl) rfl rfl rfl (fun _ h => h) (OpR.loadN rfl (Cells.fB (.tail .head) (by omega)) (fc_length _ _)) ?_
          refine DL.two (i := 2) (j := 10) (by kernel_rfl) ?_ ?_
          focus
            refine DL1.stepK rfl rfl rfl (by exact OpW.call (first := []) (captured := []) inferInstance rfl rfl (Right_ok (n := 2) (by decide) (by decide))) (by rintro _ _ ⟨rfl, rfl⟩ _ h; exact Own.pick (pre := [_, _, _, _, _]) [0, 1, 2, 3, 4] rfl h) ?_; rintro r51 _ ⟨rfl, rfl⟩
            refine DL.two (i := 5) (j := 10) (by kernel_rfl) ?_ ?_
            focus
              refine DL1.stepK rfl rfl rfl (by exact OpW.call (first := []) (captured := []) inferInstance rfl rfl (Right_ok (n := 13) (by decide) (by decide))) (by rintro _ _ ⟨rfl, rfl⟩ _ h; exact Own.pick (pre := [_, _, _, _, _]) [0, 1, 2, 3, 4] rfl h) ?_; rintro r54 _ ⟨rfl, rfl⟩
              refine DL.two (i := 8) (j := 10) (by kernel_rfl) ?_ ?_
              focus
                refine DL1.stepF rfl rfl rfl (by kernel_rfl) (by exact OpW.call (first := []) (captured := []) inferInstance rfl rfl (Right_ok (n := 22) (by decide) (by decide))) ?_; rintro r57 _ ⟨rfl, rfl⟩
                refine DL.two (i := 9) (j := 10) (by kernel_rfl) ?_ ?_
                focus
                  refine DL1.stepF rfl rfl rfl (by kernel_rfl) (by exact OpW.call (first := []) (captured := []) inferInstance rfl rfl Odd_ok) ?_; rintro r58 _ ⟨rfl, rfl⟩
                  refine DL.only (i := 10) (by kernel_rfl) ?_
                  refine DL1.stepK rfl rfl rfl (OpM.w OpM.alloc) (by rintro _ _ ⟨b10, rfl, rfl⟩ _ h; exact Own.pick (pre := [_, _, _, _, _, _]) [1, 2, 3, 4, 5] rfl h) ?_; rintro _ _ ⟨b10, rfl, rfl⟩
                  refine DL.only (i := 11) (by kernel_rfl) ?_
                  refine DL1.stepF0 rfl rfl (by kernel_rfl) (OpM.w (by apply OpM.storeN rfl rfl (fc_length _ _) (fc_one fun _ => rfl); (case' hu => exact .head); (case' hs => exact spl_all (by rfl)); done)) ?_; rintro _ _ ⟨rfl, rfl⟩
                  refine DL.done (by kernel_rfl) ?_
                rotate_left 1
                focus
                  refine DL1.stepK rfl rfl rfl (OpM.w OpM.alloc) (by rintro _ _ ⟨b10, rfl, rfl⟩ _ h; exact Own.pick (pre := [_, _, _, _, _, _]) [1, 2, 3, 4, 5] rfl h) ?_; rintro _ _ ⟨b10, rfl, rfl⟩
                  refine DL.only (i := 9) (by kernel_rfl) ?_
                  refine DL1.stepF rfl rfl rfl (by kernel_rfl) (by exact OpW.call (first := []) (captured := []) inferInstance rfl rfl Odd_ok) ?_; rintro r58 _ ⟨rfl, rfl⟩
                  refine DL.only (i := 11) (by kernel_rfl) ?_
                  refine DL1.stepF0 rfl rfl (by kernel_rfl) (OpM.w (by apply OpM.storeN rfl rfl (fc_length _ _) (fc_one fun _ => rfl); (case' hu => exact .head); (case' hs => exact spl_all (by rfl)); done)) ?_; rintro _ _ ⟨rfl, rfl⟩
                  refine DL.done (by kernel_rfl) ?_
                rotate_left 1
              rotate_left 2
              focus
                refine DL1.stepK rfl rfl rfl (OpM.w OpM.alloc) (by rintro _ _ ⟨b10, rfl, rfl⟩ _ h; exact Own.pick (pre := [_, _, _, _, _, _]) [1, 2, 3, 4, 5] rfl h) ?_; rintro _ _ ⟨b10, rfl, rfl⟩
                refine DL.only (i := 8) (by kernel_rfl) ?_
                refine DL1.stepF rfl rfl rfl (by kernel_rfl) (by exact OpW.call (first := []) (captured := []) inferInstance rfl rfl (Right_ok (n := 22) (by decide) (by decide))) ?_; rintro r57 _ ⟨rfl, rfl⟩
                refine DL.only (i := 9) (by kernel_rfl) ?_
                refine DL1.stepF rfl rfl rfl (by kernel_rfl) (by exact OpW.call (first := []) (captured := []) inferInstance rfl rfl Odd_ok) ?_; rintro r58 _ ⟨rfl, rfl⟩
                refine DL.only (i := 11) (by kernel_rfl) ?_
                refine DL1.stepF0 rfl rfl (by kernel_rfl) (OpM.w (by apply OpM.storeN rfl rfl (fc_length _ _) (fc_one fun _ => rfl); (case' hu => exact .head); (case' hs => exact spl_all (by rfl)); done)) ?_; rintro _ _ ⟨rfl, rfl⟩
                refine DL.done (by kernel_rfl) ?_
              rotate_left 1
            rotate_left 3
            focus
              refine DL1.stepK rfl rfl rfl (OpM.w OpM.alloc) (by rintro _ _ ⟨b10, rfl, rfl⟩ _ h; exact Own.pick (pre := [_, _, _, _, _, _]) [1, 2, 3, 4, 5] rfl h) ?_; rintro _ _ ⟨b10, rfl, rfl⟩
              refine DL.only (i := 5) (by kernel_rfl) ?_
              refine DL1.stepK rfl rfl rfl (by exact OpW.call (first := []) (captured := []) inferInstance rfl rfl (Right_ok (n := 13) (by decide) (by decide))) (by rintro _ _ ⟨rfl, rfl⟩ _ h; exact Own.pick (pre := [_, _, _, _, _, _]) [1, 2, 3, 4, 5] rfl h) ?_; rintro r54 _ ⟨rfl, rfl⟩
              refine DL.only (i := 8) (by kernel_rfl) ?_
              refine DL1.stepF rfl rfl rfl (by kernel_rfl) (by exact OpW.call (first := []) (captured := []) inferInstance rfl rfl (Right_ok (n := 22) (by decide) (by decide))) ?_; rintro r57 _ ⟨rfl, rfl⟩
              refine DL.only (i := 9) (by kernel_rfl) ?_
              refine DL1.stepF rfl rfl rfl (by kernel_rfl) (by exact OpW.call (first := []) (captured := []) inferInstance rfl rfl Odd_ok) ?_; rintro r58 _ ⟨rfl, rfl⟩
              refine DL.only (i := 11) (by kernel_rfl) ?_
              refine DL1.stepF0 rfl rfl (by kernel_rfl) (OpM.w (by apply OpM.storeN rfl rfl (fc_length _ _) (fc_one fun _ => rfl); (case' hu => exact .head); (case' hs => exact spl_all (by rfl)); done)) ?_; rintro _ _ ⟨rfl, rfl⟩
              refine DL.done (by kernel_rfl) ?_
            rotate_left 1
          rotate_left 4
          focus
            refine DL1.stepK rfl rfl rfl (OpM.w OpM.alloc) (by rintro _ _ ⟨b10, rfl, rfl⟩ _ h; exact Own.pick (pre := [_, _, _, _, _, _]) [1, 2, 3, 4, 5] rfl h) ?_; rintro _ _ ⟨b10, rfl, rfl⟩
            refine DL.only (i := 2) (by kernel_rfl) ?_
            refine DL1.stepK rfl rfl rfl (by exact OpW.call (first := []) (captured := []) inferInstance rfl rfl (Right_ok (n := 2) (by decide) (by decide))) (by rintro _ _ ⟨rfl, rfl⟩ _ h; exact Own.pick (pre := [_, _, _, _, _, _]) [1, 2, 3, 4, 5] rfl h) ?_; rintro r51 _ ⟨rfl, rfl⟩
            refine DL.only (i := 5) (by kernel_rfl) ?_
            refine DL1.stepK rfl rfl rfl (by exact OpW.call (first := []) (captured := []) inferInstance rfl rfl (Right_ok (n := 13) (by decide) (by decide))) (by rintro _ _ ⟨rfl, rfl⟩ _ h; exact Own.pick (pre := [_, _, _, _, _, _]) [1, 2, 3, 4, 5] rfl h) ?_; rintro r54 _ ⟨rfl, rfl⟩
            refine DL.only (i := 8) (by kernel_rfl) ?_
            refine DL1.stepF rfl rfl rfl (by kernel_rfl) (by exact OpW.call (first := []) (captured := []) inferInstance rfl rfl (Right_ok (n := 22) (by decide) (by decide))) ?_; rintro r57 _ ⟨rfl, rfl⟩
            refine DL.only (i := 9) (by kernel_rfl) ?_
            refine DL1.stepF rfl rfl rfl (by kernel_rfl) (by exact OpW.call (first := []) (captured := []) inferInstance rfl rfl Odd_ok) ?_; rintro r58 _ ⟨rfl, rfl⟩
            refine DL.only (i := 11) (by kernel_rfl) ?_
            refine DL1.stepF0 rfl rfl (by kernel_rfl) (OpM.w (by apply OpM.storeN rfl rfl (fc_length _ _) (fc_one fun _ => rfl); (case' hu => exact .head); (case' hs => exact spl_all (by rfl)); done)) ?_; rintro _ _ ⟨rfl, rfl⟩
            refine DL.done (by kernel_rfl) ?_
          rotate_left 1
          all_goals exact go _ trivial (by repeat (first | exact SubEnv.nil | refine SubEnv.cons (by first | rfl | exact congrArg (fun z => some (Value.int .i64 z)) (by omega) | (simp; done)) ?_)) (fun _ h => h)
      · refine J.regionD [1, 2, 5, 7, 9, 18] (by kernel_rfl) ?_
        refine DL.pure (i := 0) (by kernel_rfl) (by kernel_rfl) rfl rfl rfl (OpP.indexAddrA rfl rfl (by omega) (by omega)) ?_
        refine DL.read (i := 1) (by kernel_rfl) (by kernel_rfl) rfl rfl rfl (fun _ h => h) (OpR.loadN rfl (Cells.fB (.tail .head) (by omega)) (fc_length _ _)) ?_
        refine DL.read (i := 2) (by kernel_rfl) (by kernel_rfl) rfl rfl rfl (fun _ h => h) (OpR.loadN rfl (Cells.full .head) rfl) ?_
        refine DL.pure (i := 4) (by kernel_rfl) (by kernel_rfl) rfl rfl rfl (OpP.indexAddrA rfl rfl (by omega) (by omega)) ?_
        refine DL.read (i := 5) (by kernel_rfl) (by kernel_rfl) rfl rfl rfl (fun _ h => h) (OpR.loadN rfl (Cells.fB (.tail .head) (by omega)) (fc_length _ _)) ?_
        refine DL.pure (i := 6) (by kernel_rfl) (by kernel_rfl) rfl rfl rfl (OpP.indexAddrA rfl rfl (by omega) (by omega)) ?_
        refine DL.read (i := 7) (by kernel_rfl) (by kernel_rfl) rfl rfl rfl (fun _ h => h) (OpR.loadN rfl (Cells.fB (.tail .head) (by omega)) (fc_length _ _)) ?_
        refine DL.pure (i := 8) (by kernel_rfl) (by kernel_rfl) rfl rfl rfl (OpP.indexAddrA rfl rfl (by omega) (by omega)) ?_
        refine DL.read (i := 9) (by kernel_rfl) (by kernel_rfl) rfl rfl rfl (fun _ h => h) (OpR.loadN rfl (Cells.fB (.tail .head) (by omega)) (fc_length _ _)) ?_
        refine DL.pure (i := 12) (by kernel_rfl) (by kernel_rfl) rfl rfl rfl (OpP.move rfl) ?_
        refine DL.pure (i := 15) (by kernel_rfl) (by kernel_rfl) rfl rfl rfl (OpP.move rfl) ?_
        refine DL.pure (i := 16) (by kernel_rfl) (by kernel_rfl) rfl rfl rfl (OpP.move rfl) ?_
        refine DL.ownSome (.tail (.tail .head)) (by omega) fun ga pa ea ka => ?_; subst ea
        refine DL.pure (i := 17) (by kernel_rfl) (by kernel_rfl) rfl rfl rfl (OpP.indexAddr rfl rfl (by omega) (by omega)) ?_
        refine DL.read (i := 18) (by kernel_rfl) (by kernel_rfl) rfl rfl rfl (fun _ h => h) (OpR.loadN rfl (Cells.fBo (Cells.own (.tail (.tail .head))) (by omega)) (fc_length _ _)) ?_
        refine DL.two (i := 3) (j := 20) (by kernel_rfl) ?_ ?_
        focus
          refine DL1.stepK rfl rfl rfl (by exact OpW.call (first := []) (captured := []) inferInstance rfl rfl Plus_ok) (by rintro _ _ ⟨rfl, rfl⟩ _ h; exact Own.pick (pre := [_, _, _, _, _]) [0, 1, 2, 3, 4] rfl h) ?_; rintro r32 _ ⟨rfl, rfl⟩
          refine DL.two (i := 10) (j := 20) (by kernel_rfl) ?_ ?_
          focus
            refine DL1.stepK rfl rfl rfl (by exact OpW.call (first := []) (captured := []) inferInstance rfl rfl Pick_ok) (by rintro _ _ ⟨rfl, rfl⟩ _ h; exact Own.pick (pre := [_, _, _, _, _]) [0, 1, 2, 3, 4] rfl h) ?_; rintro r39 _ ⟨rfl, rfl⟩
            refine DL.two (i := 11) (j := 20) (by kernel_rfl) ?_ ?_
            focus
              refine DL1.stepK rfl rfl rfl (by exact OpW.call (first := []) (captured := []) inferInstance rfl rfl Plus_ok) (by rintro _ _ ⟨rfl, rfl⟩ _ h; exact Own.pick (pre := [_, _, _, _, _]) [0, 1, 2, 3, 4] rfl h) ?_; rintro r40 _ ⟨rfl, rfl⟩
              refine DL.two (i := 13) (j := 20) (by kernel_rfl) ?_ ?_
              focus
                refine DL1.stepK rfl rfl rfl (by exact OpW.call (first := []) (captured := []) inferInstance rfl rfl (Hex_ok (n := i) hlt (hexOk_spec (hK i hlt)))) (by rintro _ _ ⟨rfl, rfl⟩ _ h; exact Own.pick (pre := [_, _, _, _, _]) [0, 1, 2, 3, 4] rfl h) ?_; rintro r42 _ ⟨rfl, rfl⟩
                refine DL.two (i := 14) (j := 20) (by kernel_rfl) ?_ ?_
                focus
                  refine DL1.stepK rfl rfl rfl (by exact OpW.call (first := []) (captured := []) inferInstance rfl rfl Plus_ok) (by rintro _ _ ⟨rfl, rfl⟩ _ h; exact Own.pick (pre := [_, _, _, _, _]) [0, 1, 2, 3, 4] rfl h) ?_; rintro r43 _ ⟨rfl, rfl⟩
                  refine DL.two (i := 19) (j := 20) (by kernel_rfl) ?_ ?_
                  focus
                    refine DL1.stepF rfl rfl rfl (by kernel_rfl) (by exact OpW.call (first := []) (captured := []) inferInstance rfl rfl Plus_ok) ?_; rintro r48 _ ⟨rfl, rfl⟩
                    refine DL.only (i := 20) (by kernel_rfl) ?_
                    refine DL1.stepK rfl rfl rfl (OpM.w OpM.alloc) (by rintro _ _ ⟨b9, rfl, rfl⟩ _ h; exact Own.pick (pre := [_, _, _, _, _, _]) [1, 2, 3, 4, 5] rfl h) ?_; rintro _ _ ⟨b9, rfl, rfl⟩
                    refine DL.only (i := 21) (by kernel_rfl) ?_
                    refine DL1.stepF0 rfl rfl (by kernel_rfl) (OpM.w (by apply OpM.storeN rfl rfl (fc_length _ _) (fc_one fun _ => rfl); (case' hu => exact .head); (case' hs => exact spl_all (by rfl)); done)) ?_; rintro _ _ ⟨rfl, rfl⟩
                    refine DL.done (by kernel_rfl) ?_
                  rotate_left 1
                  focus
                    refine DL1.stepK rfl rfl rfl (OpM.w OpM.alloc) (by rintro _ _ ⟨b9, rfl, rfl⟩ _ h; exact Own.pick (pre := [_, _, _, _, _, _]) [1, 2, 3, 4, 5] rfl h) ?_; rintro _ _ ⟨b9, rfl, rfl⟩
                    refine DL.only (i := 19) (by kernel_rfl) ?_
                    refine DL1.stepF rfl rfl rfl (by kernel_rfl) (by exact OpW.call (first := []) (captured := []) inferInstance rfl rfl Plus_ok) ?_; rintro r48 _ ⟨rfl, rfl⟩
                    refine DL.only (i := 21) (by kernel_rfl) ?_
                    refine DL1.stepF0 rfl rfl (by kernel_rfl) (OpM.w (by apply OpM.storeN rfl rfl (fc_length _ _) (fc_one fun _ => rfl); (case' hu => exact .head); (case' hs => exact spl_all (by rfl)); done)) ?_; rintro _ _ ⟨rfl, rfl⟩
                    refine DL.done (by kernel_rfl) ?_
                  rotate_left 1
                rotate_left 2
                focus
                  refine DL1.stepK rfl rfl rfl (OpM.w OpM.alloc) (by rintro _ _ ⟨b9, rfl, rfl⟩ _ h; exact Own.pick (pre := [_, _, _, _, _, _]) [1, 2, 3, 4, 5] rfl h) ?_; rintro _ _ ⟨b9, rfl, rfl⟩
                  refine DL.only (i := 14) (by kernel_rfl) ?_
                  refine DL1.stepK rfl rfl rfl (by exact OpW.call (first := []) (captured := []) inferInstance rfl rfl Plus_ok) (by rintro _ _ ⟨rfl, rfl⟩ _ h; exact Own.pick (pre := [_, _, _, _, _, _]) [1, 2, 3, 4, 5] rfl h) ?_; rintro r43 _ ⟨rfl, rfl⟩
                  refine DL.only (i := 19) (by kernel_rfl) ?_
                  refine DL1.stepF rfl rfl rfl (by kernel_rfl) (by exact OpW.call (first := []) (captured := []) inferInstance rfl rfl Plus_ok) ?_; rintro r48 _ ⟨rfl, rfl⟩
                  refine DL.only (i := 21) (by kernel_rfl) ?_
                  refine DL1.stepF0 rfl rfl (by kernel_rfl) (OpM.w (by apply OpM.storeN rfl rfl (fc_length _ _) (fc_one fun _ => rfl); (case' hu => exact .head); (case' hs => exact spl_all (by rfl)); done)) ?_; rintro _ _ ⟨rfl, rfl⟩
                  refine DL.done (by kernel_rfl) ?_
                rotate_left 1
              rotate_left 3
              focus
                refine DL1.stepK rfl rfl rfl (OpM.w OpM.alloc) (by rintro _ _ ⟨b9, rfl, rfl⟩ _ h; exact Own.pick (pre := [_, _, _, _, _, _]) [1, 2, 3, 4, 5] rfl h) ?_; rintro _ _ ⟨b9, rfl, rfl⟩
                refine DL.only (i := 13) (by kernel_rfl) ?_
                refine DL1.stepK rfl rfl rfl (by exact OpW.call (first := []) (captured := []) inferInstance rfl rfl (Hex_ok (n := i) hlt (hexOk_spec (hK i hlt)))) (by rintro _ _ ⟨rfl, rfl⟩ _ h; exact Own.pick (pre := [_, _, _, _, _, _]) [1, 2, 3, 4, 5] rfl h) ?_; rintro r42 _ ⟨rfl, rfl⟩
                refine DL.only (i := 14) (by kernel_rfl) ?_
                refine DL1.stepK rfl rfl rfl (by exact OpW.call (first := []) (captured := []) inferInstance rfl rfl Plus_ok) (by rintro _ _ ⟨rfl, rfl⟩ _ h; exact Own.pick (pre := [_, _, _, _, _, _]) [1, 2, 3, 4, 5] rfl h) ?_; rintro r43 _ ⟨rfl, rfl⟩
                refine DL.only (i := 19) (by kernel_rfl) ?_
                refine DL1.stepF rfl rfl rfl (by kernel_rfl) (by exact OpW.call (first := []) (captured := []) inferInstance rfl rfl Plus_ok) ?_; rintro r48 _ ⟨rfl, rfl⟩
                refine DL.only (i := 21) (by kernel_rfl) ?_
                refine DL1.stepF0 rfl rfl (by kernel_rfl) (OpM.w (by apply OpM.storeN rfl rfl (fc_length _ _) (fc_one fun _ => rfl); (case' hu => exact .head); (case' hs => exact spl_all (by rfl)); done)) ?_; rintro _ _ ⟨rfl, rfl⟩
                refine DL.done (by kernel_rfl) ?_
              rotate_left 1
            rotate_left 4
            focus
              refine DL1.stepK rfl rfl rfl (OpM.w OpM.alloc) (by rintro _ _ ⟨b9, rfl, rfl⟩ _ h; exact Own.pick (pre := [_, _, _, _, _, _]) [1, 2, 3, 4, 5] rfl h) ?_; rintro _ _ ⟨b9, rfl, rfl⟩
              refine DL.only (i := 11) (by kernel_rfl) ?_
              refine DL1.stepK rfl rfl rfl (by exact OpW.call (first := []) (captured := []) inferInstance rfl rfl Plus_ok) (by rintro _ _ ⟨rfl, rfl⟩ _ h; exact Own.pick (pre := [_, _, _, _, _, _]) [1, 2, 3, 4, 5] rfl h) ?_; rintro r40 _ ⟨rfl, rfl⟩
              refine DL.only (i := 13) (by kernel_rfl) ?_
              refine DL1.stepK rfl rfl rfl (by exact OpW.call (first := []) (captured := []) inferInstance rfl rfl (Hex_ok (n := i) hlt (hexOk_spec (hK i hlt)))) (by rintro _ _ ⟨rfl, rfl⟩ _ h; exact Own.pick (pre := [_, _, _, _, _, _]) [1, 2, 3, 4, 5] rfl h) ?_; rintro r42 _ ⟨rfl, rfl⟩
              refine DL.only (i := 14) (by kernel_rfl) ?_
              refine DL1.stepK rfl rfl rfl (by exact OpW.call (first := []) (captured := []) inferInstance rfl rfl Plus_ok) (by rintro _ _ ⟨rfl, rfl⟩ _ h; exact Own.pick (pre := [_, _, _, _, _, _]) [1, 2, 3, 4, 5] rfl h) ?_; rintro r43 _ ⟨rfl, rfl⟩
              refine DL.only (i := 19) (by kernel_rfl) ?_
              refine DL1.stepF rfl rfl rfl (by kernel_rfl) (by exact OpW.call (first := []) (captured := []) inferInstance rfl rfl Plus_ok) ?_; rintro r48 _ ⟨rfl, rfl⟩
              refine DL.only (i := 21) (by kernel_rfl) ?_
              refine DL1.stepF0 rfl rfl (by kernel_rfl) (OpM.w (by apply OpM.storeN rfl rfl (fc_length _ _) (fc_one fun _ => rfl); (case' hu => exact .head); (case' hs => exact spl_all (by rfl)); done)) ?_; rintro _ _ ⟨rfl, rfl⟩
              refine DL.done (by kernel_rfl) ?_
            rotate_left 1
          rotate_left 5
          focus
            refine DL1.stepK rfl rfl rfl (OpM.w OpM.alloc) (by rintro _ _ ⟨b9, rfl, rfl⟩ _ h; exact Own.pick (pre := [_, _, _, _, _, _]) [1, 2, 3, 4, 5] rfl h) ?_; rintro _ _ ⟨b9, rfl, rfl⟩
            refine DL.only (i := 10) (by kernel_rfl) ?_
            refine DL1.stepK rfl rfl rfl (by exact OpW.call (first := []) (captured := []) inferInstance rfl rfl Pick_ok) (by rintro _ _ ⟨rfl, rfl⟩ _ h; exact Own.pick (pre := [_, _, _, _, _, _]) [1, 2, 3, 4, 5] rfl h) ?_; rintro r39 _ ⟨rfl, rfl⟩
            refine DL.only (i := 11) (by kernel_rfl) ?_
            refine DL1.stepK rfl rfl rfl (by exact OpW.call (first := []) (captured := []) inferInstance rfl rfl Plus_ok) (by rintro _ _ ⟨rfl, rfl⟩ _ h; exact Own.pick (pre := [_, _, _, _, _, _]) [1, 2, 3, 4, 5] rfl h) ?_; rintro r40 _ ⟨rfl, rfl⟩
            refine DL.only (i := 13) (by kernel_rfl) ?_
            refine DL1.stepK rfl rfl rfl (by exact OpW.call (first := []) (captured := []) inferInstance rfl rfl (Hex_ok (n := i) hlt (hexOk_spec (hK i hlt)))) (by rintro _ _ ⟨rfl, rfl⟩ _ h; exact Own.pick (pre := [_, _, _, _, _, _]) [1, 2, 3, 4, 5] rfl h) ?_; rintro r42 _ ⟨rfl, rfl⟩
            refine DL.only (i := 14) (by kernel_rfl) ?_
            refine DL1.stepK rfl rfl rfl (by exact OpW.call (first := []) (captured := []) inferInstance rfl rfl Plus_ok) (by rintro _ _ ⟨rfl, rfl⟩ _ h; exact Own.pick (pre := [_, _, _, _, _, _]) [1, 2, 3, 4, 5] rfl h) ?_; rintro r43 _ ⟨rfl, rfl⟩
            refine DL.only (i := 19) (by kernel_rfl) ?_
            refine DL1.stepF rfl rfl rfl (by kernel_rfl) (by exact OpW.call (first := []) (captured := []) inferInstance rfl rfl Plus_ok) ?_; rintro r48 _ ⟨rfl, rfl⟩
            refine DL.only (i := 21) (by kernel_rfl) ?_
            refine DL1.stepF0 rfl rfl (by kernel_rfl) (OpM.w (by apply OpM.storeN rfl rfl (fc_length _ _) (fc_one fun _ => rfl); (case' hu => exact .head); (case' hs => exact spl_all (by rfl)); done)) ?_; rintro _ _ ⟨rfl, rfl⟩
            refine DL.done (by kernel_rfl) ?_
          rotate_left 1
        rotate_left 6
        focus
          refine DL1.stepK rfl rfl rfl (OpM.w OpM.alloc) (by rintro _ _ ⟨b9, rfl, rfl⟩ _ h; exact Own.pick (pre := [_, _, _, _, _, _]) [1, 2, 3, 4, 5] rfl h) ?_; rintro _ _ ⟨b9, rfl, rfl⟩
          refine DL.only (i := 3) (by kernel_rfl) ?_
          refine DL1.stepK rfl rfl rfl (by exact OpW.call (first := []) (captured := []) inferInstance rfl rfl Plus_ok) (by rintro _ _ ⟨rfl, rfl⟩ _ h; exact Own.pick (pre := [_, _, _, _, _, _]) [1, 2, 3, 4, 5] rfl h) ?_; rintro r32 _ ⟨rfl, rfl⟩
          refine DL.only (i := 10) (by kernel_rfl) ?_
          refine DL1.stepK rfl rfl rfl (by exact OpW.call (first := []) (captured := []) inferInstance rfl rfl Pick_ok) (by rintro _ _ ⟨rfl, rfl⟩ _ h; exact Own.pick (pre := [_, _, _, _, _, _]) [1, 2, 3, 4, 5] rfl h) ?_; rintro r39 _ ⟨rfl, rfl⟩
          refine DL.only (i := 11) (by kernel_rfl) ?_
          refine DL1.stepK rfl rfl rfl (by exact OpW.call (first := []) (captured := []) inferInstance rfl rfl Plus_ok) (by rintro _ _ ⟨rfl, rfl⟩ _ h; exact Own.pick (pre := [_, _, _, _, _, _]) [1, 2, 3, 4, 5] rfl h) ?_; rintro r40 _ ⟨rfl, rfl⟩
          refine DL.only (i := 13) (by kernel_rfl) ?_
          refine DL1.stepK rfl rfl rfl (by exact OpW.call (first := []) (captured := []) inferInstance rfl rfl (Hex_ok (n := i) hlt (hexOk_spec (hK i hlt)))) (by rintro _ _ ⟨rfl, rfl⟩ _ h; exact Own.pick (pre := [_, _, _, _, _, _]) [1, 2, 3, 4, 5] rfl h) ?_; rintro r42 _ ⟨rfl, rfl⟩
          refine DL.only (i := 14) (by kernel_rfl) ?_
          refine DL1.stepK rfl rfl rfl (by exact OpW.call (first := []) (captured := []) inferInstance rfl rfl Plus_ok) (by rintro _ _ ⟨rfl, rfl⟩ _ h; exact Own.pick (pre := [_, _, _, _, _, _]) [1, 2, 3, 4, 5] rfl h) ?_; rintro r43 _ ⟨rfl, rfl⟩
          refine DL.only (i := 19) (by kernel_rfl) ?_
          refine DL1.stepF rfl rfl rfl (by kernel_rfl) (by exact OpW.call (first := []) (captured := []) inferInstance rfl rfl Plus_ok) ?_; rintro r48 _ ⟨rfl, rfl⟩
          refine DL.only (i := 21) (by kernel_rfl) ?_
          refine DL1.stepF0 rfl rfl (by kernel_rfl) (OpM.w (by apply OpM.storeN rfl rfl (fc_length _ _) (fc_one fun _ => rfl); (case' hu => exact .head); (case' hs => exact spl_all (by rfl)); done)) ?_; rintro _ _ ⟨rfl, rfl⟩
          refine DL.done (by kernel_rfl) ?_
        rotate_left 1
        all_goals exact go _ trivial (by repeat (first | exact SubEnv.nil | refine SubEnv.cons (by first | rfl | exact congrArg (fun z => some (Value.int .i64 z)) (by omega) | (simp; done)) ?_)) (fun _ h => Own.pick (pre := [_, _]) [0] rfl h)
    · refine J.regionD [1, 4, 7] (by kernel_rfl) ?_
      refine DL.pure (i := 0) (by kernel_rfl) (by kernel_rfl) rfl rfl rfl (OpP.indexAddrA rfl rfl (by omega) (by omega)) ?_
      refine DL.read (i := 1) (by kernel_rfl) (by kernel_rfl) rfl rfl rfl (fun _ h => h) (OpR.loadN rfl (Cells.fB .head (by omega)) (fc_length _ _)) ?_
      refine DL.pure (i := 3) (by kernel_rfl) (by kernel_rfl) rfl rfl rfl (OpP.indexAddrA rfl rfl (by omega) (by omega)) ?_
      refine DL.read (i := 4) (by kernel_rfl) (by kernel_rfl) rfl rfl rfl (fun _ h => h) (OpR.loadN rfl (Cells.fB .head (by omega)) (fc_length _ _)) ?_
      refine DL.pure (i := 6) (by kernel_rfl) (by kernel_rfl) rfl rfl rfl (OpP.indexAddrA rfl rfl (by omega) (by omega)) ?_
      refine DL.read (i := 7) (by kernel_rfl) (by kernel_rfl) rfl rfl rfl (fun _ h => h) (OpR.loadN rfl (Cells.fB .head (by omega)) (fc_length _ _)) ?_
      refine DL.two (i := 2) (j := 10) (by kernel_rfl) ?_ ?_
      focus
        refine DL1.stepK rfl rfl rfl (by exact OpW.call (first := []) (captured := []) inferInstance rfl rfl (Right_ok (n := 6) (by decide) (by decide))) (by rintro _ _ ⟨rfl, rfl⟩ _ h; exact Own.pick (pre := [_, _, _, _]) [0, 1, 2, 3] rfl h) ?_; rintro r21 _ ⟨rfl, rfl⟩
        refine DL.two (i := 5) (j := 10) (by kernel_rfl) ?_ ?_
        focus
          refine DL1.stepK rfl rfl rfl (by exact OpW.call (first := []) (captured := []) inferInstance rfl rfl (Right_ok (n := 11) (by decide) (by decide))) (by rintro _ _ ⟨rfl, rfl⟩ _ h; exact Own.pick (pre := [_, _, _, _]) [0, 1, 2, 3] rfl h) ?_; rintro r24 _ ⟨rfl, rfl⟩
          refine DL.two (i := 8) (j := 10) (by kernel_rfl) ?_ ?_
          focus
            refine DL1.stepF rfl rfl rfl (by kernel_rfl) (by exact OpW.call (first := []) (captured := []) inferInstance rfl rfl (Right_ok (n := 25) (by decide) (by decide))) ?_; rintro r27 _ ⟨rfl, rfl⟩
            refine DL.two (i := 9) (j := 10) (by kernel_rfl) ?_ ?_
            focus
              refine DL1.stepF rfl rfl rfl (by kernel_rfl) (by exact OpW.call (first := []) (captured := []) inferInstance rfl rfl Odd_ok) ?_; rintro r28 _ ⟨rfl, rfl⟩
              refine DL.only (i := 10) (by kernel_rfl) ?_
              refine DL1.stepK rfl rfl rfl (OpM.w OpM.alloc) (by rintro _ _ ⟨b8, rfl, rfl⟩ _ h; exact Own.pick (pre := [_, _, _, _, _]) [1, 2, 3, 4] rfl h) ?_; rintro _ _ ⟨b8, rfl, rfl⟩
              refine DL.only (i := 11) (by kernel_rfl) ?_
              refine DL1.stepF0 rfl rfl (by kernel_rfl) (OpM.w (by apply OpM.storeN rfl rfl (fc_length _ _) (fc_one fun _ => rfl); (case' hu => exact .head); (case' hs => exact spl_all (by rfl)); done)) ?_; rintro _ _ ⟨rfl, rfl⟩
              refine DL.done (by kernel_rfl) ?_
            rotate_left 1
            focus
              refine DL1.stepK rfl rfl rfl (OpM.w OpM.alloc) (by rintro _ _ ⟨b8, rfl, rfl⟩ _ h; exact Own.pick (pre := [_, _, _, _, _]) [1, 2, 3, 4] rfl h) ?_; rintro _ _ ⟨b8, rfl, rfl⟩
              refine DL.only (i := 9) (by kernel_rfl) ?_
              refine DL1.stepF rfl rfl rfl (by kernel_rfl) (by exact OpW.call (first := []) (captured := []) inferInstance rfl rfl Odd_ok) ?_; rintro r28 _ ⟨rfl, rfl⟩
              refine DL.only (i := 11) (by kernel_rfl) ?_
              refine DL1.stepF0 rfl rfl (by kernel_rfl) (OpM.w (by apply OpM.storeN rfl rfl (fc_length _ _) (fc_one fun _ => rfl); (case' hu => exact .head); (case' hs => exact spl_all (by rfl)); done)) ?_; rintro _ _ ⟨rfl, rfl⟩
              refine DL.done (by kernel_rfl) ?_
            rotate_left 1
          rotate_left 2
          focus
            refine DL1.stepK rfl rfl rfl (OpM.w OpM.alloc) (by rintro _ _ ⟨b8, rfl, rfl⟩ _ h; exact Own.pick (pre := [_, _, _, _, _]) [1, 2, 3, 4] rfl h) ?_; rintro _ _ ⟨b8, rfl, rfl⟩
            refine DL.only (i := 8) (by kernel_rfl) ?_
            refine DL1.stepF rfl rfl rfl (by kernel_rfl) (by exact OpW.call (first := []) (captured := []) inferInstance rfl rfl (Right_ok (n := 25) (by decide) (by decide))) ?_; rintro r27 _ ⟨rfl, rfl⟩
            refine DL.only (i := 9) (by kernel_rfl) ?_
            refine DL1.stepF rfl rfl rfl (by kernel_rfl) (by exact OpW.call (first := []) (captured := []) inferInstance rfl rfl Odd_ok) ?_; rintro r28 _ ⟨rfl, rfl⟩
            refine DL.only (i := 11) (by kernel_rfl) ?_
            refine DL1.stepF0 rfl rfl (by kernel_rfl) (OpM.w (by apply OpM.storeN rfl rfl (fc_length _ _) (fc_one fun _ => rfl); (case' hu => exact .head); (case' hs => exact spl_all (by rfl)); done)) ?_; rintro _ _ ⟨rfl, rfl⟩
            refine DL.done (by kernel_rfl) ?_
          rotate_left 1
        rotate_left 3
        focus
          refine DL1.stepK rfl rfl rfl (OpM.w OpM.alloc) (by rintro _ _ ⟨b8, rfl, rfl⟩ _ h; exact Own.pick (pre := [_, _, _, _, _]) [1, 2, 3, 4] rfl h) ?_; rintro _ _ ⟨b8, rfl, rfl⟩
          refine DL.only (i := 5) (by kernel_rfl) ?_
          refine DL1.stepK rfl rfl rfl (by exact OpW.call (first := []) (captured := []) inferInstance rfl rfl (Right_ok (n := 11) (by decide) (by decide))) (by rintro _ _ ⟨rfl, rfl⟩ _ h; exact Own.pick (pre := [_, _, _, _, _]) [1, 2, 3, 4] rfl h) ?_; rintro r24 _ ⟨rfl, rfl⟩
          refine DL.only (i := 8) (by kernel_rfl) ?_
          refine DL1.stepF rfl rfl rfl (by kernel_rfl) (by exact OpW.call (first := []) (captured := []) inferInstance rfl rfl (Right_ok (n := 25) (by decide) (by decide))) ?_; rintro r27 _ ⟨rfl, rfl⟩
          refine DL.only (i := 9) (by kernel_rfl) ?_
          refine DL1.stepF rfl rfl rfl (by kernel_rfl) (by exact OpW.call (first := []) (captured := []) inferInstance rfl rfl Odd_ok) ?_; rintro r28 _ ⟨rfl, rfl⟩
          refine DL.only (i := 11) (by kernel_rfl) ?_
          refine DL1.stepF0 rfl rfl (by kernel_rfl) (OpM.w (by apply OpM.storeN rfl rfl (fc_length _ _) (fc_one fun _ => rfl); (case' hu => exact .head); (case' hs => exact spl_all (by rfl)); done)) ?_; rintro _ _ ⟨rfl, rfl⟩
          refine DL.done (by kernel_rfl) ?_
        rotate_left 1
      rotate_left 4
      focus
        refine DL1.stepK rfl rfl rfl (OpM.w OpM.alloc) (by rintro _ _ ⟨b8, rfl, rfl⟩ _ h; exact Own.pick (pre := [_, _, _, _, _]) [1, 2, 3, 4] rfl h) ?_; rintro _ _ ⟨b8, rfl, rfl⟩
        refine DL.only (i := 2) (by kernel_rfl) ?_
        refine DL1.stepK rfl rfl rfl (by exact OpW.call (first := []) (captured := []) inferInstance rfl rfl (Right_ok (n := 6) (by decide) (by decide))) (by rintro _ _ ⟨rfl, rfl⟩ _ h; exact Own.pick (pre := [_, _, _, _, _]) [1, 2, 3, 4] rfl h) ?_; rintro r21 _ ⟨rfl, rfl⟩
        refine DL.only (i := 5) (by kernel_rfl) ?_
        refine DL1.stepK rfl rfl rfl (by exact OpW.call (first := []) (captured := []) inferInstance rfl rfl (Right_ok (n := 11) (by decide) (by decide))) (by rintro _ _ ⟨rfl, rfl⟩ _ h; exact Own.pick (pre := [_, _, _, _, _]) [1, 2, 3, 4] rfl h) ?_; rintro r24 _ ⟨rfl, rfl⟩
        refine DL.only (i := 8) (by kernel_rfl) ?_
        refine DL1.stepF rfl rfl rfl (by kernel_rfl) (by exact OpW.call (first := []) (captured := []) inferInstance rfl rfl (Right_ok (n := 25) (by decide) (by decide))) ?_; rintro r27 _ ⟨rfl, rfl⟩
        refine DL.only (i := 9) (by kernel_rfl) ?_
        refine DL1.stepF rfl rfl rfl (by kernel_rfl) (by exact OpW.call (first := []) (captured := []) inferInstance rfl rfl Odd_ok) ?_; rintro r28 _ ⟨rfl, rfl⟩
        refine DL.only (i := 11) (by kernel_rfl) ?_
        refine DL1.stepF0 rfl rfl (by kernel_rfl) (OpM.w (by apply OpM.storeN rfl rfl (fc_length _ _) (fc_one fun _ => rfl); (case' hu => exact .head); (case' hs => exact spl_all (by rfl)); done)) ?_; rintro _ _ ⟨rfl, rfl⟩
        refine DL.done (by kernel_rfl) ?_
      rotate_left 1
      all_goals exact go _ trivial (by repeat (first | exact SubEnv.nil | refine SubEnv.cons (by first | rfl | exact congrArg (fun z => some (Value.int .i64 z)) (by omega) | (simp; done)) ?_)) (fun _ h => h)
  · have : i = 64 := by omega
    subst this
    have hm := fun j (hj : j < 8) => mix_ref K U bs hj
    rw [fB_congr hm]
    generalize refRs K (Wd (loadW bs 64)) U 64 = V
    refine J.seq ?_
    refine J.seq ?_
    refine J.region ?_
    refine JL.pure rfl rfl (OpP.move rfl) ?_
    refine JL.decF rfl rfl (OpP.lss rfl rfl) (by omega) ?_
    refine JL.nil ?_
    refine J.condF rfl ?_
    refine J.exit rfl ?_
    refine J.seq ?_
    refine J.seq ?_
    refine J.region ?_
    refine JL.pure rfl rfl (OpP.assign rfl) ?_
    refine JL.nil ?_
    refine J.block ?_
    refine J.loopI (fun i : Nat => 8 - i) (fun i => i ≤ 8) (fun i => [(11, .int .i64 (i : Nat)), (2, .pointer (some ⟨b2, 0, none⟩)), (4, .pointer (some ⟨b4, 0, none⟩)), (6, .pointer (some ⟨b6, 0, none⟩))])
      (fun i => row b2 74 (fB 8 fun j => if j < i then U j + V j else U j) :: row b6 74 (fB 8 V) :: row b4 74 (List.replicate 256 (.bool false)) :: F) 0 (Nat.zero_le _) (by repeat (first | exact SubEnv.nil | refine SubEnv.cons (by first | rfl | exact congrArg (fun z => some (Value.int .i64 z)) (by omega) | (simp; done)) ?_)) (fun _ h => Own.pick (pre := [_, _, _, _]) [2, 0, 3] rfl h) (fun i hi back => ?_)
    dsimp only at hi back ⊢
    by_cases hlt : i < 8
    · refine J.seq ?_
      refine J.seq ?_
      refine J.region ?_
      refine JL.pure rfl rfl (OpP.move rfl) ?_
      refine JL.decT rfl rfl (OpP.lss rfl rfl) (by omega) ?_
      refine JL.nil ?_
      refine J.condT rfl ?_
      refine J.skip ?_
      refine J.seq ?_
      refine J.block ?_
      refine J.regionD [3, 6] (by kernel_rfl) ?_
      refine DL.pure (i := 0) (by kernel_rfl) (by kernel_rfl) rfl rfl rfl (OpP.move rfl) ?_
      refine DL.pure (i := 1) (by kernel_rfl) (by kernel_rfl) rfl rfl rfl (OpP.move rfl) ?_
      refine DL.pure (i := 2) (by kernel_rfl) (by kernel_rfl) rfl rfl rfl (OpP.indexAddrA rfl rfl (by omega) (by omega)) ?_
      refine DL.read (i := 3) (by kernel_rfl) (by kernel_rfl) rfl rfl rfl (fun _ h => h) (OpR.loadN rfl (Cells.fB .head (by omega)) (fc_length _ _)) ?_
      refine DL.pure (i := 4) (by kernel_rfl) (by kernel_rfl) rfl rfl rfl (OpP.move rfl) ?_
      refine DL.pure (i := 5) (by kernel_rfl) (by kernel_rfl) rfl rfl rfl (OpP.indexAddrA rfl rfl (by omega) (by omega)) ?_
      refine DL.read (i := 6) (by kernel_rfl) (by kernel_rfl) rfl rfl rfl (fun _ h => h) (OpR.loadN rfl (Cells.fB (.tail .head) (by omega)) (fc_length _ _)) ?_
      refine DL.only (i := 7) (by kernel_rfl) ?_
      refine DL1.stepF rfl rfl rfl (by kernel_rfl) (by exact OpW.call (first := []) (captured := []) inferInstance rfl rfl Plus_ok) ?_; rintro r99 _ ⟨rfl, rfl⟩
      refine DL.pure (i := 8) (by kernel_rfl) (by kernel_rfl) rfl rfl rfl (OpP.indexAddrA rfl rfl (by omega) (by omega)) ?_
      refine DL.only (i := 9) (by kernel_rfl) ?_
      refine DL1.stepF0 rfl rfl (by kernel_rfl) (OpM.w (by apply OpM.storeN rfl rfl (fc_length _ _) (fc_one fun _ => rfl); (case' hu => exact .head); (case' hs => exact spl_fB (by omega)); done)) ?_; rintro _ _ ⟨rfl, rfl⟩
      refine DL.done (by kernel_rfl) ?_
      refine J.inBlock ?_
      refine J.region ?_
      refine JL.pure rfl rfl (OpP.move rfl) ?_
      refine JL.pure rfl rfl (OpP.addI rfl rfl (by omega) (by omega)) ?_
      refine JL.pure rfl rfl (OpP.assign rfl) ?_
      refine JL.nil ?_
      refine back (i + 1) (by omega) (by omega) (by repeat (first | exact SubEnv.nil | refine SubEnv.cons (by first | rfl | exact congrArg (fun z => some (Value.int .i64 z)) (by omega) | (simp; done)) ?_)) (fun _ h => ?_)
      rw [show (fB 8 fun j => if j < i + 1 then U j + V j else U j) = fB 8 (upd (fun j => if j < i then U j + V j else U j) i ((if i < i then U i + V i else U i) + V i)) from fB_congr fun j _ => by
        unfold upd
        by_cases hj : j = i
        · subst hj; rw [if_pos rfl, if_pos (by omega), if_neg (by omega)]
        · rw [if_neg hj]
          dsimp only
          by_cases h2 : j < i
          · rw [if_pos h2, if_pos (by omega)]
          · rw [if_neg h2, if_neg (by omega)]]
      exact h
    · have : i = 8 := by omega
      subst this
      rw [show (fB 8 fun j => if j < 8 then U j + V j else U j) = fB 8 fun j => U j + V j from fB_congr fun j hj => if_pos hj]
      refine J.seq ?_
      refine J.seq ?_
      refine J.region ?_
      refine JL.pure rfl rfl (OpP.move rfl) ?_
      refine JL.decF rfl rfl (OpP.lss rfl rfl) (by omega) ?_
      refine JL.nil ?_
      refine J.condF rfl ?_
      refine J.exit rfl ?_
      refine J.seq ?_
      refine J.region ?_
      refine JL.read rfl rfl (OpR.loadN rfl (Cells.full .head) (fB_length _ _)) ?_
      refine JL.mem0 rfl (by apply OpM.storeN rfl rfl (fB_length _ _) fB_one; (case' hu => exact (.tail (.tail .head))); (case' hs => exact spl_all (by first | (rw [fB_length, List.length_replicate]; done) | (rw [fB_length, fB_length]; done) | (rw [fB_length, List.length_replicate]; rfl))); done) ?_; rintro _ _ ⟨rfl, rfl⟩
      refine JL.nil ?_
      refine J.retC rfl rfl (by apply Cells.full; (with_reducible repeat (first | exact .head | apply Has.tail))) (by exact fB_length _ _) ?_
      exact ⟨_, ⟨rfl, rfl⟩, fun _ h => h.tail.tail.tail⟩
end Go.Proofs.B
