/- A text of the proof of a statement about the given program: its part BRef3. No person has read it. -/
import Derived.Test.YtecnolmpdgfnfaaDoorBRef2
import Derived.Test.YtecnolmpdgfnfaaDoorJ24
-- seat b
namespace Go.Proofs.B
open Go Go.Gp Go.RowKit

theorem Row_ok {w0 : World} {F : List HProp} {bs : List UInt8} {v : Value} (hbs : bs.length = 64) (hr : RdO w0 F v 64 (bcells bs)) :
    FnO Tryd.prog w0 45 [v] F (fun r l' => ∃ a c, r = .slice a 64 c ∧ l' = own 73 32 r 64 (fB 64 (Wd (loadW bs 64))) :: F) := by
  refine FnO.rd hr fun hr => ?_
  obtain ⟨va, vc, rfl⟩ := hr.lit
  refine FnO.weak ?_
  refine FnO.intro (n := 88) Tryd.func45 rfl rfl rfl ?_
  refine J.seq ?_
  refine J.region ?_
  refine JL.pure rfl rfl (OpP.assign rfl) ?_
  refine JL.nil ?_
  refine J.seq ?_
  refine J.region ?_
  refine JL.pure rfl rfl (OpP.assign rfl) ?_
  refine JL.nil ?_
  refine J.seq ?_
  refine J.seq ?_
  refine J.region ?_
  refine JL.pure rfl rfl (OpP.assign rfl) ?_
  refine JL.nil ?_
  refine J.block ?_
  refine J.loopI (fun x : Nat × Value => 16 - x.1) (fun x => x.1 ≤ 16) (fun x => [(4, .int .i64 (x.1 : Nat)), (3, x.2), (0, .slice va 64 vc)])
    (fun x => own 73 32 x.2 x.1 (fB x.1 (loadW bs 64)) :: F) (0, .slice none 0 0) (Nat.zero_le _) (by repeat (first | exact SubEnv.nil | refine SubEnv.cons (by first | rfl | exact congrArg (fun z => some (Value.int .i64 z)) (by omega) | (simp; done)) ?_)) (fun _ h => Own.own_nil h) (fun ⟨i, sv⟩ hi back => ?_)
  dsimp only at hi back ⊢
  by_cases hlt : i < 16
  · refine J.lit .head fun asv csv esv => ?_; subst esv
    refine J.seq ?_
    refine J.seq ?_
    refine J.region ?_
    refine JL.pure rfl rfl (OpP.move rfl) ?_
    refine JL.decT rfl rfl (OpP.lss rfl rfl) (by omega) ?_
    refine JL.nil ?_
    refine J.condT rfl ?_
    refine J.skip ?_
    refine J.seq ?_
    refine J.block ?_
    refine J.seq ?_
    refine J.region ?_
    refine JL.mem rfl rfl OpM.alloc ?_; rintro _ _ ⟨b5, rfl, rfl⟩
    refine JL.nil ?_
    refine J.seq ?_
    refine J.seq ?_
    refine J.region ?_
    refine JL.pure rfl rfl (OpP.assign rfl) ?_
    refine JL.nil ?_
    refine J.block ?_
    refine J.loopI (fun k : Nat => 32 - k) (fun k => k ≤ 32) (fun k => [(6, .int .i64 (k : Nat)), (4, .int .i64 (i : Nat)), (3, .slice asv i csv), (0, .slice va 64 vc), (5, .pointer (some ⟨b5, 0, none⟩))])
      (fun k => row b5 73 (fc 32 fun j => .bool (if j < k then (loadW bs 64 i).getLsbD j else false)) :: own 73 32 (.slice asv i csv) i (fB i (loadW bs 64)) :: F) 0 (Nat.zero_le _) (by repeat (first | exact SubEnv.nil | refine SubEnv.cons (by first | rfl | exact congrArg (fun z => some (Value.int .i64 z)) (by omega) | (simp; done)) ?_)) (fun _ h => by dsimp only; rw [← bit_zero (D := fun _ => false) (fun _ => rfl)]; exact h) (fun k hk back2 => ?_)
    dsimp only at hk back2 ⊢
    by_cases hkt : k < 32
    · have hb := loadW_bit bs hlt hkt
      have hbi : (bcells bs)[4 * i + 3 - k / 8]? = some (u8c (bs.getD (4 * i + 3 - k / 8) 0)) := by
        simp [bcells, List.getD, List.getElem?_eq_getElem (show 4 * i + 3 - k / 8 < bs.length by omega)]
      generalize hget : bs.getD (4 * i + 3 - k / 8) 0 = c at hbi
      refine J.seq ?_
      refine J.seq ?_
      refine J.region ?_
      refine JL.pure rfl rfl (OpP.move rfl) ?_
      refine JL.decT rfl rfl (OpP.lss rfl rfl) (by omega) ?_
      refine JL.nil ?_
      refine J.condT rfl ?_
      refine J.skip ?_
      refine J.seq ?_
      refine J.block ?_
      refine J.region ?_
      refine JL.pure rfl rfl (OpP.move rfl) ?_
      refine JL.pure rfl rfl (OpP.move rfl) ?_
      refine JL.pure rfl rfl (OpP.move rfl) ?_
      refine JL.pure rfl rfl (OpP.mulI rfl rfl (by omega) (by omega)) ?_
      refine JL.pure rfl rfl (OpP.addI rfl rfl (by omega) (by omega)) ?_
      refine JL.pure rfl rfl (OpP.move rfl) ?_
      refine JL.pure rfl rfl (OpP.quoI rfl rfl (by omega) (by omega) (by first | decide | (simp only [IntKind.max]; omega) | (simp [IntKind.max, IntKind.signed, IntKind.bits]; omega))) ?_
      refine JL.pure rfl rfl (OpP.subI rfl rfl (by omega) (by omega)) ?_
      obtain ⟨gva, pva, qva, eva, kva, cva⟩ := hr.pos (by omega); cases eva
      refine JL.pure rfl rfl (OpP.indexAddr rfl rfl (by omega) (by omega)) ?_
      refine JL.read rfl rfl (OpR.load1 rfl (by apply Cells.cell cva (fun _ h => Own.pick (pre := [_, _]) [] rfl h); (case' hv => assumption); (case' ho => omega); done)) ?_
      refine JL.pure rfl rfl (OpP.move rfl) ?_
      refine JL.pure rfl rfl (OpP.remI rfl rfl (by first | omega | exact Int.natCast_nonneg _) (by omega)) ?_
      refine JL.pure rfl rfl (OpP.convI rfl (by simp [IntKind.min, IntKind.max, IntKind.signed, IntKind.bits] <;> omega) (by simp [IntKind.min, IntKind.max, IntKind.signed, IntKind.bits] <;> omega)) ?_
      refine JL.pure rfl rfl (OpP.shrN rfl rfl (by omega) (by first | decide | (simp only [IntKind.bits]; omega))) ?_
      refine JL.pure rfl rfl (OpP.remI rfl rfl (by first | omega | exact Int.natCast_nonneg _) (by omega)) ?_
      refine JL.dec rfl rfl (OpP.eql rfl rfl) (fun h35 => ?_) (fun h35 => ?_)
      focus
        refine JL.pure rfl rfl (OpP.indexAddrN rfl rfl (by omega)) ?_
        refine JL.mem0 rfl (by apply OpM.store1 rfl rfl rfl; (case' hu => exact .head); (case' hs => exact spl_fc rfl (by omega)); done) ?_; rintro _ _ ⟨rfl, rfl⟩
        refine JL.nil ?_
        refine J.inBlock ?_
        refine J.region ?_
        refine JL.pure rfl rfl (OpP.move rfl) ?_
        refine JL.pure rfl rfl (OpP.addI rfl rfl (by omega) (by omega)) ?_
        refine JL.pure rfl rfl (OpP.assign rfl) ?_
        refine JL.nil ?_
      rotate_left 1
      focus
        refine JL.pure rfl rfl (OpP.indexAddrN rfl rfl (by omega)) ?_
        refine JL.mem0 rfl (by apply OpM.store1 rfl rfl rfl; (case' hu => exact .head); (case' hs => exact spl_fc rfl (by omega)); done) ?_; rintro _ _ ⟨rfl, rfl⟩
        refine JL.nil ?_
        refine J.inBlock ?_
        refine J.region ?_
        refine JL.pure rfl rfl (OpP.move rfl) ?_
        refine JL.pure rfl rfl (OpP.addI rfl rfl (by omega) (by omega)) ?_
        refine JL.pure rfl rfl (OpP.assign rfl) ?_
        refine JL.nil ?_
      rotate_left 1
      all_goals
        rw [show ((k : Int) % 8).toNat = k % 8 by omega] at h35
        refine back2 (k + 1) (by omega) (by omega) (by repeat (first | exact SubEnv.nil | refine SubEnv.cons (by first | rfl | exact congrArg (fun z => some (Value.int .i64 z)) (by omega) | (simp; done)) ?_)) (fun _ h => ?_)
        rw [upd_bit] at h
        · exact h
        · rw [loadW_bit bs hlt hkt, hget]
          refine Eq.trans ?_ Nat.testBit_eq_decide_div_mod_eq.symm
          show _ = decide (c.toNat / 2 ^ (k % 8) % 2 = 1)
          generalize c.toNat / 2 ^ (k % 8) = q at h35 ⊢
          first | exact (decide_eq_true (by omega)).symm | exact (decide_eq_false (by omega)).symm
    · have : k = 32 := by omega
      subst this
      rw [bit_full (D := fun _ => false) (x := loadW bs 64 i) fun _ _ => rfl]
      have hl : (fc 32 (bitV (loadW bs 64 i))).length = 1 * 32 := fc_length _ _
      have ho1 : ∀ u ∈ fc 32 (bitV (loadW bs 64 i)), u.oneCell' = true := fc_one fun _ => rfl
      refine J.seq ?_
      refine J.seq ?_
      refine J.region ?_
      refine JL.pure rfl rfl (OpP.move rfl) ?_
      refine JL.decF rfl rfl (OpP.lss rfl rfl) (by omega) ?_
      refine JL.nil ?_
      refine J.condF rfl ?_
      refine J.exit rfl ?_
      refine J.region ?_
      refine JL.pure rfl rfl (OpP.move rfl) ?_
      refine JL.read rfl rfl (OpR.loadN rfl (Cells.full .head) rfl) ?_
      refine JL.mem rfl rfl (OpM.buildSlice1 (by rfl) rfl (by exact fc_length _ _) (by rfl)) ?_; rintro _ _ ⟨b39, rfl, rfl⟩
      refine JL.f2 ?_; refine JL.mem rfl rfl (OpM.appendH rfl (.inl ⟨_, Sl.und inferInstance⟩) (by rfl) rfl rfl (RdO.src (RdO.ofRow (.tail .head) (by first | decide | omega)) (by first | assumption | exact fc_length _ _ | (simp; done) | (simp; omega))) (by first | exact bcells_one _ | exact scells_one _ | exact icells_one _ | assumption | exact fc_one fun _ => rfl) (by simp only [maxLen]; omega) (by omega)) ?_; rintro _ _ ⟨⟨a40, c40, rfl⟩, rfl⟩
      refine JL.pure rfl rfl (OpP.assign rfl) ?_
      refine JL.nil ?_
      refine J.inBlock ?_
      refine J.region ?_
      refine JL.pure rfl rfl (OpP.move rfl) ?_
      refine JL.pure rfl rfl (OpP.addI rfl rfl (by omega) (by omega)) ?_
      refine JL.pure rfl rfl (OpP.assign rfl) ?_
      refine JL.nil ?_
      refine back (i + 1, .slice a40 (i + 1) c40) (by dsimp only; omega) (by dsimp only; omega) (by repeat (first | exact SubEnv.nil | refine SubEnv.cons (by first | rfl | exact congrArg (fun z => some (Value.int .i64 z)) (by omega) | (simp; done)) ?_)) (fun _ h => ?_)
      dsimp only
      rw [fB_succ]
      exact Own.pick (pre := [_, _, _]) [0] rfl h
  · have : i = 16 := by omega
    subst this
    have e : fB 16 (loadW bs 64) = fB 16 (Wd (loadW bs 64)) := fB_congr fun j hj => (Wd_lo _ hj).symm
    rw [e]
    generalize loadW bs 64 = S
    refine J.lit .head fun asv csv esv => ?_; subst esv
    refine J.seq ?_
    refine J.seq ?_
    refine J.region ?_
    refine JL.pure rfl rfl (OpP.move rfl) ?_
    refine JL.decF rfl rfl (OpP.lss rfl rfl) (by omega) ?_
    refine JL.nil ?_
    refine J.condF rfl ?_
    refine J.exit rfl ?_
    refine J.seq ?_
    refine J.seq ?_
    refine J.region ?_
    refine JL.pure rfl rfl (OpP.assign rfl) ?_
    refine JL.nil ?_
    refine J.block ?_
    refine J.loopI (fun x : Nat × Value => 64 - x.1) (fun x => 16 ≤ x.1 ∧ x.1 ≤ 64) (fun x => [(7, .int .i64 (x.1 : Nat)), (3, x.2)])
      (fun x => own 73 32 x.2 x.1 (fB x.1 (Wd S)) :: F) (16, .slice asv 16 csv) ⟨Nat.le_refl 16, (by decide : 16 ≤ 64)⟩ (by repeat (first | exact SubEnv.nil | refine SubEnv.cons (by first | rfl | exact congrArg (fun z => some (Value.int .i64 z)) (by omega) | (simp; done)) ?_)) (fun _ h => h) (fun ⟨i, sv⟩ hi back => ?_)
    dsimp only at hi back ⊢
    by_cases hlt : i < 64
    · have hw := Wd_hi S hi.1
      refine J.lit .head fun asv csv esv => ?_; subst esv
      refine J.seq ?_
      refine J.seq ?_
      refine J.region ?_
      refine JL.pure rfl rfl (OpP.move rfl) ?_
      refine JL.decT rfl rfl (OpP.lss rfl rfl) (by omega) ?_
      refine JL.nil ?_
      refine J.condT rfl ?_
      refine J.skip ?_
      refine J.seq ?_
      refine J.block ?_
      refine J.ownSome .head (by omega) fun gs ps es ks => ?_
      subst es
      refine J.seq ?_
      refine J.cut (σ := Nat × Nat) (fun _ => True) (fun s => [(7, .int .i64 (i : Nat)), (3, .slice (some ⟨gs, ps, none⟩) i csv), (8, .pointer (some ⟨s.1, 0, none⟩)), (9, .pointer (some ⟨s.2, 0, none⟩))])
        (fun s => row s.1 73 (fc 32 (bitV (Wd S (i - 15)))) :: row s.2 73 (fc 32 (bitV (Wd S (i - 2)))) :: own 73 32 (.slice (some ⟨gs, ps, none⟩) i csv) i (fB i (Wd S)) :: F) (fun ⟨b8, b9⟩ _ => ?_) (fun k' go => ?_)
      · dsimp only
        refine J.seq ?_
        refine J.cut (σ := Nat) (fun _ => True) (fun b10 => [(7, .int .i64 (i : Nat)), (3, .slice (some ⟨gs, ps, none⟩) i csv), (9, .pointer (some ⟨b9, 0, none⟩)), (10, .pointer (some ⟨b10, 0, none⟩))])
          (fun b10 => row b10 73 (fc 32 (bitV (half2 (Wd S (i - 15)) 7 18 3))) :: row b9 73 (fc 32 (bitV (Wd S (i - 2)))) :: own 73 32 (.slice (some ⟨gs, ps, none⟩) i csv) i (fB i (Wd S)) :: F) (fun b10 _ => ?_) (fun k' go => ?_)
        · refine J.seq ?_
          refine J.cut (σ := Nat) (fun _ => True) (fun b11 => [(7, .int .i64 (i : Nat)), (3, .slice (some ⟨gs, ps, none⟩) i csv), (10, .pointer (some ⟨b10, 0, none⟩)), (11, .pointer (some ⟨b11, 0, none⟩))])
            (fun b11 => row b11 73 (fc 32 (bitV (half2 (Wd S (i - 2)) 17 19 10))) :: row b10 73 (fc 32 (bitV (half2 (Wd S (i - 15)) 7 18 3))) :: own 73 32 (.slice (some ⟨gs, ps, none⟩) i csv) i (fB i (Wd S)) :: F) (fun b11 _ => ?_) (fun k' go => ?_)
          · refine J.regionD [5, 6, 12, 14] (by kernel_rfl) ?_
            refine DL.pure (i := 0) (by kernel_rfl) (by kernel_rfl) rfl rfl rfl (OpP.move rfl) ?_
            refine DL.pure (i := 1) (by kernel_rfl) (by kernel_rfl) rfl rfl rfl (OpP.move rfl) ?_
            refine DL.pure (i := 2) (by kernel_rfl) (by kernel_rfl) rfl rfl rfl (OpP.move rfl) ?_
            refine DL.pure (i := 3) (by kernel_rfl) (by kernel_rfl) rfl rfl rfl (OpP.subI rfl rfl (by omega) (by omega)) ?_
            refine DL.pure (i := 4) (by kernel_rfl) (by kernel_rfl) rfl rfl rfl (OpP.indexAddr rfl rfl (by omega) (by omega)) ?_
            refine DL.read (i := 5) (by kernel_rfl) (by kernel_rfl) rfl rfl rfl (fun _ h => h) (OpR.loadN rfl (Cells.fBo (Cells.own (.tail (.tail .head))) (by omega)) (fc_length _ _)) ?_
            refine DL.read (i := 6) (by kernel_rfl) (by kernel_rfl) rfl rfl rfl (fun _ h => h) (OpR.loadN rfl (Cells.full (.tail .head)) rfl) ?_
            refine DL.pure (i := 8) (by kernel_rfl) (by kernel_rfl) rfl rfl rfl (OpP.move rfl) ?_
            refine DL.pure (i := 9) (by kernel_rfl) (by kernel_rfl) rfl rfl rfl (OpP.move rfl) ?_
            refine DL.pure (i := 10) (by kernel_rfl) (by kernel_rfl) rfl rfl rfl (OpP.subI rfl rfl (by omega) (by omega)) ?_
            refine DL.pure (i := 11) (by kernel_rfl) (by kernel_rfl) rfl rfl rfl (OpP.indexAddr rfl rfl (by omega) (by omega)) ?_
            refine DL.read (i := 12) (by kernel_rfl) (by kernel_rfl) rfl rfl rfl (fun _ h => h) (OpR.loadN rfl (Cells.fBo (Cells.own (.tail (.tail .head))) (by omega)) (fc_length _ _)) ?_
            refine DL.read (i := 14) (by kernel_rfl) (by kernel_rfl) rfl rfl rfl (fun _ h => h) (OpR.loadN rfl (Cells.full .head) rfl) ?_
            refine DL.only (i := 7) (by kernel_rfl) ?_
            refine DL1.stepK rfl rfl rfl (by exact OpW.call (first := []) (captured := []) inferInstance rfl rfl Plus_ok) (by rintro _ _ ⟨rfl, rfl⟩ _ h; exact Own.pick (pre := [_, _, _]) [0, 1, 2] rfl h) ?_; rintro r76 _ ⟨rfl, rfl⟩
            refine DL.only (i := 13) (by kernel_rfl) ?_
            refine DL1.stepK rfl rfl rfl (by exact OpW.call (first := []) (captured := []) inferInstance rfl rfl Plus_ok) (by rintro _ _ ⟨rfl, rfl⟩ _ h; exact Own.pick (pre := [_, _, _]) [0, 1, 2] rfl h) ?_; rintro r82 _ ⟨rfl, rfl⟩
            refine DL.only (i := 15) (by kernel_rfl) ?_
            refine DL1.stepF rfl rfl rfl (by kernel_rfl) (by exact OpW.call (first := []) (captured := []) inferInstance rfl rfl Plus_ok) ?_; rintro r84 _ ⟨rfl, rfl⟩
            refine DL.only (i := 16) (by kernel_rfl) ?_
            refine DL1.stepF rfl rfl rfl (by kernel_rfl) (OpM.w (OpM.buildSlice1 (by rfl) rfl (by exact fc_length _ _) (by rfl))) ?_; rintro _ _ ⟨b85, rfl, rfl⟩
            refine DL.only (i := 17) (by kernel_rfl) ?_
            refine DL1.f3 ?_; refine DL1.stepF rfl rfl rfl (by kernel_rfl) (OpM.w (OpM.appendH rfl (.inl ⟨_, Sl.und inferInstance⟩) (by rfl) rfl rfl (RdO.src (RdO.ofRow (.tail .head) (by first | decide | omega)) (by first | assumption | exact fc_length _ _ | (simp; done) | (simp; omega))) (by first | exact bcells_one _ | exact scells_one _ | exact icells_one _ | assumption | exact fc_one fun _ => rfl) (by simp only [maxLen]; omega) (by omega))) ?_; rintro _ _ ⟨⟨a86, c86, rfl⟩, rfl⟩
            refine DL.pure (i := 18) (by kernel_rfl) (by kernel_rfl) rfl rfl rfl (OpP.assign rfl) ?_
            refine DL.done (by kernel_rfl) ?_
            refine J.inBlock ?_
            refine J.region ?_
            refine JL.pure rfl rfl (OpP.move rfl) ?_
            refine JL.pure rfl rfl (OpP.addI rfl rfl (by omega) (by omega)) ?_
            refine JL.pure rfl rfl (OpP.assign rfl) ?_
            refine JL.nil ?_
            refine back (i + 1, .slice a86 (i + 1) c86) ⟨by dsimp only; omega, by dsimp only; omega⟩ (by dsimp only; omega) (by repeat (first | exact SubEnv.nil | refine SubEnv.cons (by first | rfl | exact congrArg (fun z => some (Value.int .i64 z)) (by omega) | (simp; done)) ?_)) (fun _ h => ?_)
            dsimp only
            rw [fB_succ, hw]
            rw [show ((i : Int) - 16).toNat = i - 16 by omega, show ((i : Int) - 7).toNat = i - 7 by omega] at h
            exact Own.pick (pre := [_, _, _, _]) [0] rfl h
          · refine J.regionD [0, 2, 4] (by kernel_rfl) ?_
            refine DL.read (i := 0) (by kernel_rfl) (by kernel_rfl) rfl rfl rfl (fun _ h => h) (OpR.loadN rfl (Cells.full (.tail .head)) rfl) ?_
            refine DL.read (i := 2) (by kernel_rfl) (by kernel_rfl) rfl rfl rfl (fun _ h => h) (OpR.loadN rfl (Cells.full (.tail .head)) rfl) ?_
            refine DL.read (i := 4) (by kernel_rfl) (by kernel_rfl) rfl rfl rfl (fun _ h => h) (OpR.loadN rfl (Cells.full (.tail .head)) rfl) ?_
            refine DL.two (i := 1) (j := 7) (by kernel_rfl) ?_ ?_
            focus
              refine DL1.stepK rfl rfl rfl (by exact OpW.call (first := []) (captured := []) inferInstance rfl rfl (Right_ok (n := 17) (by decide) (by decide))) (by rintro _ _ ⟨rfl, rfl⟩ _ h; exact Own.pick (pre := [_, _, _]) [0, 1, 2] rfl h) ?_; rintro r63 _ ⟨rfl, rfl⟩
              refine DL.two (i := 3) (j := 7) (by kernel_rfl) ?_ ?_
              focus
                refine DL1.stepK rfl rfl rfl (by exact OpW.call (first := []) (captured := []) inferInstance rfl rfl (Right_ok (n := 19) (by decide) (by decide))) (by rintro _ _ ⟨rfl, rfl⟩ _ h; exact Own.pick (pre := [_, _, _]) [0, 1, 2] rfl h) ?_; rintro r65 _ ⟨rfl, rfl⟩
                refine DL.two (i := 5) (j := 7) (by kernel_rfl) ?_ ?_
                focus
                  refine DL1.stepF rfl rfl rfl (by kernel_rfl) (by exact OpW.call (first := []) (captured := []) inferInstance rfl rfl (Right_ok (n := 10) (by decide) (by decide))) ?_; rintro r67 _ ⟨rfl, rfl⟩
                  refine DL.two (i := 6) (j := 7) (by kernel_rfl) ?_ ?_
                  focus
                    refine DL1.stepF rfl rfl rfl (by kernel_rfl) (by exact OpW.call (first := []) (captured := []) inferInstance rfl rfl Odd_ok) ?_; rintro r68 _ ⟨rfl, rfl⟩
                    refine DL.only (i := 7) (by kernel_rfl) ?_
                    refine DL1.stepK rfl rfl rfl (OpM.w OpM.alloc) (by rintro _ _ ⟨b11, rfl, rfl⟩ _ h; exact Own.pick (pre := [_, _, _, _]) [1, 2, 3] rfl h) ?_; rintro _ _ ⟨b11, rfl, rfl⟩
                    refine DL.only (i := 8) (by kernel_rfl) ?_
                    refine DL1.stepF0 rfl rfl (by kernel_rfl) (OpM.w (by apply OpM.storeN rfl rfl (fc_length _ _) (fc_one fun _ => rfl); (case' hu => exact .head); (case' hs => exact spl_all (by rfl)); done)) ?_; rintro _ _ ⟨rfl, rfl⟩
                    refine DL.done (by kernel_rfl) ?_
                  rotate_left 1
                  focus
                    refine DL1.stepK rfl rfl rfl (OpM.w OpM.alloc) (by rintro _ _ ⟨b11, rfl, rfl⟩ _ h; exact Own.pick (pre := [_, _, _, _]) [1, 2, 3] rfl h) ?_; rintro _ _ ⟨b11, rfl, rfl⟩
                    refine DL.only (i := 6) (by kernel_rfl) ?_
                    refine DL1.stepF rfl rfl rfl (by kernel_rfl) (by exact OpW.call (first := []) (captured := []) inferInstance rfl rfl Odd_ok) ?_; rintro r68 _ ⟨rfl, rfl⟩
                    refine DL.only (i := 8) (by kernel_rfl) ?_
                    refine DL1.stepF0 rfl rfl (by kernel_rfl) (OpM.w (by apply OpM.storeN rfl rfl (fc_length _ _) (fc_one fun _ => rfl); (case' hu => exact .head); (case' hs => exact spl_all (by rfl)); done)) ?_; rintro _ _ ⟨rfl, rfl⟩
                    refine DL.done (by kernel_rfl) ?_
                  rotate_left 1
                rotate_left 2
                focus
                  refine DL1.stepK rfl rfl rfl (OpM.w OpM.alloc) (by rintro _ _ ⟨b11, rfl, rfl⟩ _ h; exact Own.pick (pre := [_, _, _, _]) [1, 2, 3] rfl h) ?_; rintro _ _ ⟨b11, rfl, rfl⟩
                  refine DL.only (i := 5) (by kernel_rfl) ?_
                  refine DL1.stepF rfl rfl rfl (by kernel_rfl) (by exact OpW.call (first := []) (captured := []) inferInstance rfl rfl (Right_ok (n := 10) (by decide) (by decide))) ?_; rintro r67 _ ⟨rfl, rfl⟩
                  refine DL.only (i := 6) (by kernel_rfl) ?_
                  refine DL1.stepF rfl rfl rfl (by kernel_rfl) (by exact OpW.call (first := []) (captured := []) inferInstance rfl rfl Odd_ok) ?_; rintro r68 _ ⟨rfl, rfl⟩
                  refine DL.only (i := 8) (by kernel_rfl) ?_
                  refine DL1.stepF0 rfl rfl (by kernel_rfl) (OpM.w (by apply OpM.storeN rfl rfl (fc_length _ _) (fc_one fun _ => rfl); (case' hu => exact .head); (case' hs => exact spl_all (by rfl)); done)) ?_; rintro _ _ ⟨rfl, rfl⟩
                  refine DL.done (by kernel_rfl) ?_
                rotate_left 1
              rotate_left 3
              focus
                refine DL1.stepK rfl rfl rfl (OpM.w OpM.alloc) (by rintro _ _ ⟨b11, rfl, rfl⟩ _ h; exact Own.pick (pre := [_, _, _, _]) [1, 2, 3] rfl h) ?_; rintro _ _ ⟨b11, rfl, rfl⟩
                refine DL.only (i := 3) (by kernel_rfl) ?_
                refine DL1.stepK rfl rfl rfl (by exact OpW.call (first := []) (captured := []) inferInstance rfl rfl (Right_ok (n := 19) (by decide) (by decide))) (by rintro _ _ ⟨rfl, rfl⟩ _ h; exact Own.pick (pre := [_, _, _, _]) [1, 2, 3] rfl h) ?_; rintro r65 _ ⟨rfl, rfl⟩
                refine DL.only (i := 5) (by kernel_rfl) ?_
                refine DL1.stepF rfl rfl rfl (by kernel_rfl) (by exact OpW.call (first := []) (captured := []) inferInstance rfl rfl (Right_ok (n := 10) (by decide) (by decide))) ?_; rintro r67 _ ⟨rfl, rfl⟩
                refine DL.only (i := 6) (by kernel_rfl) ?_
                refine DL1.stepF rfl rfl rfl (by kernel_rfl) (by exact OpW.call (first := []) (captured := []) inferInstance rfl rfl Odd_ok) ?_; rintro r68 _ ⟨rfl, rfl⟩
                refine DL.only (i := 8) (by kernel_rfl) ?_
                refine DL1.stepF0 rfl rfl (by kernel_rfl) (OpM.w (by apply OpM.storeN rfl rfl (fc_length _ _) (fc_one fun _ => rfl); (case' hu => exact .head); (case' hs => exact spl_all (by rfl)); done)) ?_; rintro _ _ ⟨rfl, rfl⟩
                refine DL.done (by kernel_rfl) ?_
              rotate_left 1
            rotate_left 4
            focus
              refine DL1.stepK rfl rfl rfl (OpM.w OpM.alloc) (by rintro _ _ ⟨b11, rfl, rfl⟩ _ h; exact Own.pick (pre := [_, _, _, _]) [1, 2, 3] rfl h) ?_; rintro _ _ ⟨b11, rfl, rfl⟩
              refine DL.only (i := 1) (by kernel_rfl) ?_
              refine DL1.stepK rfl rfl rfl (by exact OpW.call (first := []) (captured := []) inferInstance rfl rfl (Right_ok (n := 17) (by decide) (by decide))) (by rintro _ _ ⟨rfl, rfl⟩ _ h; exact Own.pick (pre := [_, _, _, _]) [1, 2, 3] rfl h) ?_; rintro r63 _ ⟨rfl, rfl⟩
              refine DL.only (i := 3) (by kernel_rfl) ?_
              refine DL1.stepK rfl rfl rfl (by exact OpW.call (first := []) (captured := []) inferInstance rfl rfl (Right_ok (n := 19) (by decide) (by decide))) (by rintro _ _ ⟨rfl, rfl⟩ _ h; exact Own.pick (pre := [_, _, _, _]) [1, 2, 3] rfl h) ?_; rintro r65 _ ⟨rfl, rfl⟩
              refine DL.only (i := 5) (by kernel_rfl) ?_
              refine DL1.stepF rfl rfl rfl (by kernel_rfl) (by exact OpW.call (first := []) (captured := []) inferInstance rfl rfl (Right_ok (n := 10) (by decide) (by decide))) ?_; rintro r67 _ ⟨rfl, rfl⟩
              refine DL.only (i := 6) (by kernel_rfl) ?_
              refine DL1.stepF rfl rfl rfl (by kernel_rfl) (by exact OpW.call (first := []) (captured := []) inferInstance rfl rfl Odd_ok) ?_; rintro r68 _ ⟨rfl, rfl⟩
              refine DL.only (i := 8) (by kernel_rfl) ?_
              refine DL1.stepF0 rfl rfl (by kernel_rfl) (OpM.w (by apply OpM.storeN rfl rfl (fc_length _ _) (fc_one fun _ => rfl); (case' hu => exact .head); (case' hs => exact spl_all (by rfl)); done)) ?_; rintro _ _ ⟨rfl, rfl⟩
              refine DL.done (by kernel_rfl) ?_
            rotate_left 1
            all_goals exact go _ trivial (by repeat (first | exact SubEnv.nil | refine SubEnv.cons (by first | rfl | exact congrArg (fun z => some (Value.int .i64 z)) (by omega) | (simp; done)) ?_)) (fun _ h => Own.pick (pre := [_, _, _, _]) [0, 1, 3] rfl h)
        · refine J.regionD [0, 2, 4] (by kernel_rfl) ?_
          refine DL.read (i := 0) (by kernel_rfl) (by kernel_rfl) rfl rfl rfl (fun _ h => h) (OpR.loadN rfl (Cells.full .head) rfl) ?_
          refine DL.read (i := 2) (by kernel_rfl) (by kernel_rfl) rfl rfl rfl (fun _ h => h) (OpR.loadN rfl (Cells.full .head) rfl) ?_
          refine DL.read (i := 4) (by kernel_rfl) (by kernel_rfl) rfl rfl rfl (fun _ h => h) (OpR.loadN rfl (Cells.full .head) rfl) ?_
          refine DL.two (i := 1) (j := 7) (by kernel_rfl) ?_ ?_
          focus
            refine DL1.stepK rfl rfl rfl (by exact OpW.call (first := []) (captured := []) inferInstance rfl rfl (Right_ok (n := 7) (by decide) (by decide))) (by rintro _ _ ⟨rfl, rfl⟩ _ h; exact Own.pick (pre := [_, _, _]) [0, 1, 2] rfl h) ?_; rintro r56 _ ⟨rfl, rfl⟩
            refine DL.two (i := 3) (j := 7) (by kernel_rfl) ?_ ?_
            focus
              refine DL1.stepK rfl rfl rfl (by exact OpW.call (first := []) (captured := []) inferInstance rfl rfl (Right_ok (n := 18) (by decide) (by decide))) (by rintro _ _ ⟨rfl, rfl⟩ _ h; exact Own.pick (pre := [_, _, _]) [0, 1, 2] rfl h) ?_; rintro r58 _ ⟨rfl, rfl⟩
              refine DL.two (i := 5) (j := 7) (by kernel_rfl) ?_ ?_
              focus
                refine DL1.stepF rfl rfl rfl (by kernel_rfl) (by exact OpW.call (first := []) (captured := []) inferInstance rfl rfl (Right_ok (n := 3) (by decide) (by decide))) ?_; rintro r60 _ ⟨rfl, rfl⟩
                refine DL.two (i := 6) (j := 7) (by kernel_rfl) ?_ ?_
                focus
                  refine DL1.stepF rfl rfl rfl (by kernel_rfl) (by exact OpW.call (first := []) (captured := []) inferInstance rfl rfl Odd_ok) ?_; rintro r61 _ ⟨rfl, rfl⟩
                  refine DL.only (i := 7) (by kernel_rfl) ?_
                  refine DL1.stepK rfl rfl rfl (OpM.w OpM.alloc) (by rintro _ _ ⟨b10, rfl, rfl⟩ _ h; exact Own.pick (pre := [_, _, _, _]) [1, 2, 3] rfl h) ?_; rintro _ _ ⟨b10, rfl, rfl⟩
                  refine DL.only (i := 8) (by kernel_rfl) ?_
                  refine DL1.stepF0 rfl rfl (by kernel_rfl) (OpM.w (by apply OpM.storeN rfl rfl (fc_length _ _) (fc_one fun _ => rfl); (case' hu => exact .head); (case' hs => exact spl_all (by rfl)); done)) ?_; rintro _ _ ⟨rfl, rfl⟩
                  refine DL.done (by kernel_rfl) ?_
                rotate_left 1
                focus
                  refine DL1.stepK rfl rfl rfl (OpM.w OpM.alloc) (by rintro _ _ ⟨b10, rfl, rfl⟩ _ h; exact Own.pick (pre := [_, _, _, _]) [1, 2, 3] rfl h) ?_; rintro _ _ ⟨b10, rfl, rfl⟩
                  refine DL.only (i := 6) (by kernel_rfl) ?_
                  refine DL1.stepF rfl rfl rfl (by kernel_rfl) (by exact OpW.call (first := []) (captured := []) inferInstance rfl rfl Odd_ok) ?_; rintro r61 _ ⟨rfl, rfl⟩
                  refine DL.only (i := 8) (by kernel_rfl) ?_
                  refine DL1.stepF0 rfl rfl (by kernel_rfl) (OpM.w (by apply OpM.storeN rfl rfl (fc_length _ _) (fc_one fun _ => rfl); (case' hu => exact .head); (case' hs => exact spl_all (by rfl)); done)) ?_; rintro _ _ ⟨rfl, rfl⟩
                  refine DL.done (by kernel_rfl) ?_
                rotate_left 1
              rotate_left 2
              focus
                refine DL1.stepK rfl rfl rfl (OpM.w OpM.alloc) (by rintro _ _ ⟨b10, rfl, rfl⟩ _ h; exact Own.pick (pre := [_, _, _, _]) [1, 2, 3] rfl h) ?_; rintro _ _ ⟨b10, rfl, rfl⟩
                refine DL.only (i := 5) (by kernel_rfl) ?_
                refine DL1.stepF rfl rfl rfl (by kernel_rfl) (by exact OpW.call (first := []) (captured := []) inferInstance rfl rfl (Right_ok (n := 3) (by decide) (by decide))) ?_; rintro r60 _ ⟨rfl, rfl⟩
                refine DL.only (i := 6) (by kernel_rfl) ?_
                refine DL1.stepF rfl rfl rfl (by kernel_rfl) (by exact OpW.call (first := []) (captured := []) inferInstance rfl rfl Odd_ok) ?_; rintro r61 _ ⟨rfl, rfl⟩
                refine DL.only (i := 8) (by kernel_rfl) ?_
                refine DL1.stepF0 rfl rfl (by kernel_rfl) (OpM.w (by apply OpM.storeN rfl rfl (fc_length _ _) (fc_one fun _ => rfl); (case' hu => exact .head); (case' hs => exact spl_all (by rfl)); done)) ?_; rintro _ _ ⟨rfl, rfl⟩
                refine DL.done (by kernel_rfl) ?_
              rotate_left 1
            rotate_left 3
            focus
              refine DL1.stepK rfl rfl rfl (OpM.w OpM.alloc) (by rintro _ _ ⟨b10, rfl, rfl⟩ _ h; exact Own.pick (pre := [_, _, _, _]) [1, 2, 3] rfl h) ?_; rintro _ _ ⟨b10, rfl, rfl⟩
              refine DL.only (i := 3) (by kernel_rfl) ?_
              refine DL1.stepK rfl rfl rfl (by exact OpW.call (first := []) (captured := []) inferInstance rfl rfl (Right_ok (n := 18) (by decide) (by decide))) (by rintro _ _ ⟨rfl, rfl⟩ _ h; exact Own.pick (pre := [_, _, _, _]) [1, 2, 3] rfl h) ?_; rintro r58 _ ⟨rfl, rfl⟩
              refine DL.only (i := 5) (by kernel_rfl) ?_
              refine DL1.stepF rfl rfl rfl (by kernel_rfl) (by exact OpW.call (first := []) (captured := []) inferInstance rfl rfl (Right_ok (n := 3) (by decide) (by decide))) ?_; rintro r60 _ ⟨rfl, rfl⟩
              refine DL.only (i := 6) (by kernel_rfl) ?_
              refine DL1.stepF rfl rfl rfl (by kernel_rfl) (by exact OpW.call (first := []) (captured := []) inferInstance rfl rfl Odd_ok) ?_; rintro r61 _ ⟨rfl, rfl⟩
              refine DL.only (i := 8) (by kernel_rfl) ?_
              refine DL1.stepF0 rfl rfl (by kernel_rfl) (OpM.w (by apply OpM.storeN rfl rfl (fc_length _ _) (fc_one fun _ => rfl); (case' hu => exact .head); (case' hs => exact spl_all (by rfl)); done)) ?_; rintro _ _ ⟨rfl, rfl⟩
              refine DL.done (by kernel_rfl) ?_
            rotate_left 1
          rotate_left 4
          focus
            refine DL1.stepK rfl rfl rfl (OpM.w OpM.alloc) (by rintro _ _ ⟨b10, rfl, rfl⟩ _ h; exact Own.pick (pre := [_, _, _, _]) [1, 2, 3] rfl h) ?_; rintro _ _ ⟨b10, rfl, rfl⟩
            refine DL.only (i := 1) (by kernel_rfl) ?_
            refine DL1.stepK rfl rfl rfl (by exact OpW.call (first := []) (captured := []) inferInstance rfl rfl (Right_ok (n := 7) (by decide) (by decide))) (by rintro _ _ ⟨rfl, rfl⟩ _ h; exact Own.pick (pre := [_, _, _, _]) [1, 2, 3] rfl h) ?_; rintro r56 _ ⟨rfl, rfl⟩
            refine DL.only (i := 3) (by kernel_rfl) ?_
            refine DL1.stepK rfl rfl rfl (by exact OpW.call (first := []) (captured := []) inferInstance rfl rfl (Right_ok (n := 18) (by decide) (by decide))) (by rintro _ _ ⟨rfl, rfl⟩ _ h; exact Own.pick (pre := [_, _, _, _]) [1, 2, 3] rfl h) ?_; rintro r58 _ ⟨rfl, rfl⟩
            refine DL.only (i := 5) (by kernel_rfl) ?_
            refine DL1.stepF rfl rfl rfl (by kernel_rfl) (by exact OpW.call (first := []) (captured := []) inferInstance rfl rfl (Right_ok (n := 3) (by decide) (by decide))) ?_; rintro r60 _ ⟨rfl, rfl⟩
            refine DL.only (i := 6) (by kernel_rfl) ?_
            refine DL1.stepF rfl rfl rfl (by kernel_rfl) (by exact OpW.call (first := []) (captured := []) inferInstance rfl rfl Odd_ok) ?_; rintro r61 _ ⟨rfl, rfl⟩
            refine DL.only (i := 8) (by kernel_rfl) ?_
            refine DL1.stepF0 rfl rfl (by kernel_rfl) (OpM.w (by apply OpM.storeN rfl rfl (fc_length _ _) (fc_one fun _ => rfl); (case' hu => exact .head); (case' hs => exact spl_all (by rfl)); done)) ?_; rintro _ _ ⟨rfl, rfl⟩
            refine DL.done (by kernel_rfl) ?_
          rotate_left 1
          all_goals exact go _ trivial (by repeat (first | exact SubEnv.nil | refine SubEnv.cons (by first | rfl | exact congrArg (fun z => some (Value.int .i64 z)) (by omega) | (simp; done)) ?_)) (fun _ h => Own.pick (pre := [_, _, _, _]) [0, 2, 3] rfl h)
      · refine J.regionD [4, 9] (by kernel_rfl) ?_
        refine DL.pure (i := 0) (by kernel_rfl) (by kernel_rfl) rfl rfl rfl (OpP.move rfl) ?_
        refine DL.pure (i := 1) (by kernel_rfl) (by kernel_rfl) rfl rfl rfl (OpP.move rfl) ?_
        refine DL.pure (i := 2) (by kernel_rfl) (by kernel_rfl) rfl rfl rfl (OpP.subI rfl rfl (by omega) (by omega)) ?_
        refine DL.pure (i := 3) (by kernel_rfl) (by kernel_rfl) rfl rfl rfl (OpP.indexAddr rfl rfl (by omega) (by omega)) ?_
        refine DL.read (i := 4) (by kernel_rfl) (by kernel_rfl) rfl rfl rfl (fun _ h => h) (OpR.loadN rfl (Cells.fBo (Cells.own .head) (by omega)) (fc_length _ _)) ?_
        refine DL.pure (i := 5) (by kernel_rfl) (by kernel_rfl) rfl rfl rfl (OpP.move rfl) ?_
        refine DL.pure (i := 6) (by kernel_rfl) (by kernel_rfl) rfl rfl rfl (OpP.move rfl) ?_
        refine DL.pure (i := 7) (by kernel_rfl) (by kernel_rfl) rfl rfl rfl (OpP.subI rfl rfl (by omega) (by omega)) ?_
        refine DL.pure (i := 8) (by kernel_rfl) (by kernel_rfl) rfl rfl rfl (OpP.indexAddr rfl rfl (by omega) (by omega)) ?_
        refine DL.read (i := 9) (by kernel_rfl) (by kernel_rfl) rfl rfl rfl (fun _ h => h) (OpR.loadN rfl (Cells.fBo (Cells.own .head) (by omega)) (fc_length _ _)) ?_
        refine DL.two (i := 10) (j := 11) (by kernel_rfl) ?_ ?_
        focus
          refine DL1.stepK rfl rfl rfl (OpM.w OpM.alloc) (by rintro _ _ ⟨b8, rfl, rfl⟩ _ h; exact Own.pick (pre := [_, _]) [1] rfl h) ?_; rintro _ _ ⟨b8, rfl, rfl⟩
          refine DL.only (i := 11) (by kernel_rfl) ?_
          refine DL1.stepK rfl rfl rfl (OpM.w OpM.alloc) (by rintro _ _ ⟨b9, rfl, rfl⟩ _ h; exact Own.pick (pre := [_, _, _]) [2] rfl h) ?_; rintro _ _ ⟨b9, rfl, rfl⟩
          refine DL.only (i := 12) (by kernel_rfl) ?_
          refine DL1.stepK0 rfl rfl (OpM.w (by apply OpM.storeN rfl rfl (fc_length _ _) (fc_one fun _ => rfl); (case' hu => exact (.tail .head)); (case' hs => exact spl_all (by rfl)); done)) (by rintro _ _ ⟨rfl, rfl⟩ _ h; exact Own.pick (pre := [_, _, _]) [2] rfl h) ?_; rintro _ _ ⟨rfl, rfl⟩
          refine DL.only (i := 13) (by kernel_rfl) ?_
          refine DL1.stepF0 rfl rfl (by kernel_rfl) (OpM.w (by apply OpM.storeN rfl rfl (fc_length _ _) (fc_one fun _ => rfl); (case' hu => exact .head); (case' hs => exact spl_all (by rfl)); done)) ?_; rintro _ _ ⟨rfl, rfl⟩
          refine DL.done (by kernel_rfl) ?_
        rotate_left 1
        focus
          refine DL1.stepK rfl rfl rfl (OpM.w OpM.alloc) (by rintro _ _ ⟨b9, rfl, rfl⟩ _ h; exact Own.pick (pre := [_, _]) [1] rfl h) ?_; rintro _ _ ⟨b9, rfl, rfl⟩
          refine DL.only (i := 10) (by kernel_rfl) ?_
          refine DL1.stepK rfl rfl rfl (OpM.w OpM.alloc) (by rintro _ _ ⟨b8, rfl, rfl⟩ _ h; exact Own.pick (pre := [_, _, _]) [2] rfl h) ?_; rintro _ _ ⟨b8, rfl, rfl⟩
          refine DL.only (i := 12) (by kernel_rfl) ?_
          refine DL1.stepK0 rfl rfl (OpM.w (by apply OpM.storeN rfl rfl (fc_length _ _) (fc_one fun _ => rfl); (case' hu => exact .head); (case' hs => exact spl_all (by rfl)); done)) (by rintro _ _ ⟨rfl, rfl⟩ _ h; exact Own.pick (pre := [_, _, _]) [2] rfl h) ?_; rintro _ _ ⟨rfl, rfl⟩
          refine DL.only (i := 13) (by kernel_rfl) ?_
          refine DL1.stepF0 rfl rfl (by kernel_rfl) (OpM.w (by apply OpM.storeN rfl rfl (fc_length _ _) (fc_one fun _ => rfl); (case' hu => exact (.tail .head)); (case' hs => exact spl_all (by rfl)); done)) ?_; rintro _ _ ⟨rfl, rfl⟩
          refine DL.done (by kernel_rfl) ?_
        rotate_left 1
        · rw [show ((i : Int) - 15).toNat = i - 15 by omega, show ((i : Int) - 2).toNat = i - 2 by omega]
          exact go (b8, b9) trivial (by repeat (first | exact SubEnv.nil | refine SubEnv.cons (by first | rfl | exact congrArg (fun z => some (Value.int .i64 z)) (by omega) | (simp; done)) ?_)) (fun _ h => Own.pick (pre := [_, _, _]) [1, 0, 2] rfl h)
        · rw [show ((i : Int) - 15).toNat = i - 15 by omega, show ((i : Int) - 2).toNat = i - 2 by omega]
          exact go (b8, b9) trivial (by repeat (first | exact SubEnv.nil | refine SubEnv.cons (by first | rfl | exact congrArg (fun z => some (Value.int .i64 z)) (by omega) | (simp; done)) ?_)) (fun _ h => h)
    · have : i = 64 := by omega
      subst this
      refine J.lit .head fun asv csv esv => ?_; subst esv
      refine J.seq ?_
      refine J.seq ?_
      refine J.region ?_
      refine JL.pure rfl rfl (OpP.move rfl) ?_
      refine JL.decF rfl rfl (OpP.lss rfl rfl) (by omega) ?_
      refine JL.nil ?_
      refine J.condF rfl ?_
      refine J.exit rfl ?_
      refine J.seq ?_
      refine J.region ?_
      refine JL.pure rfl rfl (OpP.move rfl) ?_
      refine JL.pure rfl rfl (OpP.assign rfl) ?_
      refine JL.nil ?_
      refine J.ret1 rfl rfl ?_
      exact ⟨_, ⟨_, _, rfl, rfl⟩, fun _ h => h⟩
end Go.Proofs.B
