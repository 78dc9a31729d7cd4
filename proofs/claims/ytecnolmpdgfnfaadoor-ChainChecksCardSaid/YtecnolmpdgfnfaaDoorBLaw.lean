/- A text of the proof of a statement about the given program: its part BLaw. No person has read it. -/
import Derived.Test.YtecnolmpdgfnfaaDoorBOf
import Derived.Test.YtecnolmpdgfnfaaDoorBRef6
import Derived.Test.YtecnolmpdgfnfaaDoorJ25
-- seat b
namespace Go.Proofs.B
open Go Go.Gp Go.RowKit

instance : KeyT Tryd.prog 26 3 := ⟨by kernel_rfl, by decide, by kernel_rfl, by kernel_rfl⟩
instance : KeyT Tryd.prog 25 3 := ⟨by kernel_rfl, by decide, by kernel_rfl, by kernel_rfl⟩
instance : BytesA Tryd.prog 26 32 := ⟨5, Tryd.underlying26, Tryd.underlying5, by kernel_rfl, by kernel_rfl⟩
instance : BytesA Tryd.prog 25 32 := ⟨5, Tryd.underlying25, Tryd.underlying5, by kernel_rfl, by kernel_rfl⟩
theorem sha_abc : (shaB Kc [97, 98, 99])[0]? = some 186 ∧ (shaB Kc [97, 98, 99])[31]? = some 173 := by decide +kernel
theorem OfAbc_ok {w0 : World} {F : List HProp} {v : Value} {ps : List (Value × List UInt8)} (hK : Tab w0 0 64 fun j => w32 (Kc j)) (hc : cat ps = [97, 98, 99]) (hpl : ps.length ≤ 9223372036854775807) (hp : Parts w0 F v ps) :
    FnO Tryd.prog w0 15 [v] F (fun r l' => ∃ B, r = .agg (bcells B).toArray ∧ l' = F ∧ B.length = 32 ∧ (bcells B)[0]? = some (.int .u8 186) ∧ (bcells B)[31]? = some (.int .u8 173)) := by
  refine (Of_ok hK (by rw [hc]; decide) hpl hp).mono ?_
  rintro r l' ⟨rfl, rfl⟩
  rw [hc]
  refine ⟨_, rfl, rfl, shaB_length _ _, ?_, ?_⟩
  · rw [bcells_get, sha_abc.1]; rfl
  · rw [bcells_get, sha_abc.2]; rfl
theorem Awake_ok {w0 : World} {F : List HProp} (hK : Tab w0 0 64 fun j => w32 (Kc j)) :
    FnO Tryd.prog w0 13 [] F (fun v l' => v = .bool true ∧ l' = F) := by
  refine FnO.weak ?_
  refine FnO.intro (n := 16) Tryd.func13 rfl rfl rfl ?_
  refine J.seq ?_
  refine J.region ?_
  refine JL.pure rfl rfl (OpP.assign rfl) ?_
  refine JL.nil ?_
  refine J.seq ?_
  refine J.region ?_
  refine JL.mem rfl rfl (by apply OpM.buildSlice (by rfl) rfl (by rfl); (repeat (first | exact Fills.nil | (apply Fills.cons rfl rfl rfl; (case' hs => ((repeat (first | exact Spl.nil | apply Spl.here | apply Spl.there)); done)))))) ?_; rintro _ _ ⟨b2, rfl, rfl⟩
  refine JL.mem rfl rfl (OpM.bytesMark rfl .head) ?_; rintro _ _ ⟨rfl, rfl⟩
  refine JL.mem rfl rfl (by apply OpM.buildSlice (by rfl) rfl (by rfl); (repeat (first | exact Fills.nil | (apply Fills.cons rfl rfl rfl; (case' hs => ((repeat (first | exact Spl.nil | apply Spl.here | apply Spl.there)); done)))))) ?_; rintro _ _ ⟨b4, rfl, rfl⟩
  refine JL.mem rfl rfl (OpM.bytesMark rfl .head) ?_; rintro _ _ ⟨rfl, rfl⟩
  refine JL.mem rfl rfl (by apply OpM.buildSlice (by rfl) rfl (by rfl); (repeat (first | exact Fills.nil | (apply Fills.cons rfl rfl rfl; (case' hs => ((repeat (first | exact Spl.nil | apply Spl.here | apply Spl.there)); done)))))) ?_; rintro _ _ ⟨b6, rfl, rfl⟩
  refine JL.step rfl rfl (OpW.call (first := []) (captured := []) inferInstance rfl rfl (OfAbc_ok (ps := [(_, [97]), (_, [98, 99])]) hK (by first | assumption | omega | rfl | exact Nat.le_of_ble_eq_true rfl | (simp; omega)) (by first | assumption | omega | rfl | exact Nat.le_of_ble_eq_true rfl | (simp; omega)) (Parts.row2 .head (RdO.ofRdo (.tail (.tail .head)) (by first | decide | omega)) (RdO.ofRdo (.tail .head) (by first | decide | omega)) (by decide)))) ?_; rintro r7 _ ⟨B, ⟨rfl, ⟨rfl, ⟨h7, ⟨h71, h72⟩⟩⟩⟩⟩
  refine JL.mem rfl rfl OpM.alloc ?_; rintro _ _ ⟨b1, rfl, rfl⟩
  refine JL.mem0 rfl (by apply OpM.storeN rfl rfl (by rw [bcells_length]; first | assumption | exact Go.Proofs.B.shaB_length _ _ | solve_by_elim) (bcells_one _); (case' hu => exact .head); (case' hs => exact spl_all (by first | (rw [bcells_length, List.length_replicate]; first | assumption | exact Go.Proofs.B.shaB_length _ _ | solve_by_elim) | (rw [bcells_length, bcells_length]; first | assumption | exact Go.Proofs.B.shaB_length _ _ | solve_by_elim) | (rw [bcells_length]; first | assumption | exact Go.Proofs.B.shaB_length _ _ | solve_by_elim))); done) ?_; rintro _ _ ⟨rfl, rfl⟩
  refine JL.nil ?_
  refine J.seq ?_
  refine J.region ?_
  refine JL.pure rfl rfl (OpP.indexAddrF rfl rfl (by omega) (by omega)) ?_
  refine JL.read rfl rfl (OpR.load1 rfl (Cell.rowAt (hv := h71) .head (by first | rfl | omega))) ?_
  refine JL.decT rfl rfl (OpP.eql rfl rfl) (by omega) ?_
  refine JL.pure rfl rfl (OpP.move rfl) ?_
  refine JL.pure rfl rfl (OpP.indexAddrF rfl rfl (by omega) (by omega)) ?_
  refine JL.read rfl rfl (OpR.load1 rfl (Cell.rowAt (hv := h72) .head (by first | rfl | omega))) ?_
  refine JL.decT rfl rfl (OpP.eql rfl rfl) (by omega) ?_
  refine JL.pure rfl rfl (OpP.pickT rfl rfl) ?_
  refine JL.pure rfl rfl (OpP.assign rfl) ?_
  refine JL.nil ?_
  refine J.ret1 rfl rfl ?_
  exact ⟨_, ⟨rfl, rfl⟩, fun _ h => h.tail.tail.tail.tail⟩
theorem Few_ok {w0 : World} {F : List HProp} {v : Value} {most : Int} {ps : List (Value × List UInt8)} (hm : most ≤ 9999) (hpl : ps.length ≤ 9223372036854775807) (hp : Parts w0 F v ps) :
    FnO Tryd.prog w0 14 [v, .int .i64 most] F (fun r l' => ∃ b, r = .bool b ∧ l' = F ∧ (b = true → ((cat ps).length : Int) ≤ most ∧ ps.length ≤ 100)) := by
  refine FnO.rdF (fun _ h => h) hp.rd fun hr0 => ?_
  obtain ⟨va, vc, rfl⟩ := hr0.lit
  refine FnO.intro (n := 33) Tryd.func14 rfl rfl rfl ?_
  refine J.seq ?_
  refine J.region ?_
  refine JL.pure rfl rfl (OpP.assign rfl) ?_
  refine JL.nil ?_
  refine J.seq ?_
  refine J.region ?_
  refine JL.pure rfl rfl (OpP.assign rfl) ?_
  refine JL.nil ?_
  refine J.seq ?_
  refine J.seq ?_
  refine J.region ?_
  refine JL.pure rfl rfl (OpP.assign rfl) ?_
  refine JL.nil ?_
  refine J.block ?_
  refine J.loopI (fun x : Nat × Nat => ps.length - x.1) (fun x => x.1 ≤ ps.length ∧ x.1 ≤ 200 ∧ x.2 ≤ x.1 * 10000 ∧ (x.2 ≤ 9999 → x.2 = (cat (ps.take x.1)).length)) (fun x => [(6, .int .i64 (x.1 : Nat)), (5, .int .i64 (x.2 : Nat)), (0, .slice va ps.length vc), (1, .int .i64 most)])
    (fun _ => F) (0, 0) ⟨Nat.zero_le _, Nat.zero_le _, Nat.le_refl _, fun _ => rfl⟩ (by repeat (first | exact SubEnv.nil | refine SubEnv.cons (by first | rfl | exact congrArg (fun z => some (Value.int .i64 z)) (by omega) | (simp; done)) ?_)) (fun _ h => h) (fun ⟨i, n⟩ hi back => ?_)
  dsimp only at hi back ⊢
  obtain ⟨hi1, hi2, hi3, hi4⟩ := hi
  by_cases hlt : i < ps.length
  · by_cases h2 : i < 200
    · obtain ⟨pa, pc, p, hpi, hpv, hpr⟩ := hp.at hlt
      have hct2 := congrArg List.length (cat_take hpi)
      rw [List.length_append] at hct2
      refine J.seq ?_
      refine J.seq ?_
      refine J.region ?_
      refine JL.pure rfl rfl (OpP.move rfl) ?_
      refine JL.pure rfl rfl (OpP.move rfl) ?_
      refine JL.pure rfl rfl (OpP.len rfl rfl) ?_
      refine JL.decT rfl rfl (OpP.lss rfl rfl) (by omega) ?_
      refine JL.pure rfl rfl (OpP.move rfl) ?_
      refine JL.pure rfl rfl (OpP.move rfl) ?_
      refine JL.decT rfl rfl (OpP.lss rfl rfl) (by omega) ?_
      refine JL.pure rfl rfl (OpP.pickT rfl rfl) ?_
      refine JL.nil ?_
      refine J.condT rfl ?_
      refine J.skip ?_
      refine J.seq ?_
      refine J.block ?_
      refine J.region ?_
      refine JL.pure rfl rfl (OpP.move rfl) ?_
      refine JL.pure rfl rfl (OpP.move rfl) ?_
      refine JL.pure rfl rfl (OpP.move rfl) ?_
      obtain ⟨gva, pva, qva, eva, kva, cva⟩ := hr0.pos (by omega); cases eva
      refine JL.pure rfl rfl (OpP.indexAddr rfl rfl (by omega) (by omega)) ?_
      refine JL.read rfl rfl (OpR.load1 rfl (by apply Cells.cell cva (fun _ h => h); (case' hv => assumption); (case' ho => omega); done)) ?_
      refine JL.pure rfl rfl (OpP.len rfl rfl) ?_
      refine JL.pure rfl rfl (OpP.min rfl rfl) ?_
      refine JL.pure rfl rfl (OpP.addI rfl rfl (by omega) (by omega)) ?_
      refine JL.pure rfl rfl (OpP.assign rfl) ?_
      refine JL.nil ?_
      refine J.inBlock ?_
      refine J.region ?_
      refine JL.pure rfl rfl (OpP.move rfl) ?_
      refine JL.pure rfl rfl (OpP.addI rfl rfl (by omega) (by omega)) ?_
      refine JL.pure rfl rfl (OpP.assign rfl) ?_
      refine JL.nil ?_
      refine back (i + 1, n + min p.length 10000) ⟨by dsimp only; omega, by dsimp only; omega, by dsimp only; omega, fun h => by dsimp only at h ⊢; rw [hct2]; omega⟩ (by dsimp only; omega) (by repeat (first | exact SubEnv.nil | refine SubEnv.cons (by first | rfl | exact congrArg (fun z => some (Value.int .i64 z)) (by omega) | (simp; done)) ?_)) (fun _ h => h)
    · refine J.seq ?_
      refine J.seq ?_
      refine J.region ?_
      refine JL.pure rfl rfl (OpP.move rfl) ?_
      refine JL.pure rfl rfl (OpP.move rfl) ?_
      refine JL.pure rfl rfl (OpP.len rfl rfl) ?_
      refine JL.decT rfl rfl (OpP.lss rfl rfl) (by omega) ?_
      refine JL.pure rfl rfl (OpP.move rfl) ?_
      refine JL.pure rfl rfl (OpP.move rfl) ?_
      refine JL.decF rfl rfl (OpP.lss rfl rfl) (by omega) ?_
      refine JL.pure rfl rfl (OpP.pickT rfl rfl) ?_
      refine JL.nil ?_
      refine J.condF rfl ?_
      refine J.exit rfl ?_
      refine J.seq ?_
      refine J.region ?_
      refine JL.pure rfl rfl (OpP.move rfl) ?_
      refine JL.pure rfl rfl (OpP.len rfl rfl) ?_
      refine JL.decF rfl rfl (OpP.leq rfl rfl) (by omega) ?_
      refine JL.pure rfl rfl (OpP.move rfl) ?_
      refine JL.skip rfl rfl ?_
      refine JL.skip rfl rfl ?_
      refine JL.skip rfl rfl ?_
      refine JL.pure rfl rfl (OpP.pickF rfl rfl) ?_
      refine JL.pure rfl rfl (OpP.assign rfl) ?_
      refine JL.nil ?_
      refine J.ret1 rfl rfl ?_
      exact ⟨false, rfl, rfl, fun h => by cases h⟩
  · have : i = ps.length := by omega
    subst this
    rw [List.take_length] at hi4
    refine J.seq ?_
    refine J.seq ?_
    refine J.region ?_
    refine JL.pure rfl rfl (OpP.move rfl) ?_
    refine JL.pure rfl rfl (OpP.move rfl) ?_
    refine JL.pure rfl rfl (OpP.len rfl rfl) ?_
    refine JL.decF rfl rfl (OpP.lss rfl rfl) (by omega) ?_
    refine JL.pure rfl rfl (OpP.move rfl) ?_
    refine JL.skip rfl rfl ?_
    refine JL.skip rfl rfl ?_
    refine JL.pure rfl rfl (OpP.pickF rfl rfl) ?_
    refine JL.nil ?_
    refine J.condF rfl ?_
    refine J.exit rfl ?_
    refine J.seq ?_
    refine J.region ?_
    refine JL.pure rfl rfl (OpP.move rfl) ?_
    refine JL.pure rfl rfl (OpP.len rfl rfl) ?_
    refine JL.dec rfl rfl (OpP.leq rfl rfl) (fun h27 => ?_) (fun h27 => ?_)
    focus
      refine JL.pure rfl rfl (OpP.move rfl) ?_
      refine JL.pure rfl rfl (OpP.move rfl) ?_
      refine JL.pure rfl rfl (OpP.move rfl) ?_
      refine JL.dec rfl rfl (OpP.leq rfl rfl) (fun h31 => ?_) (fun h31 => ?_)
      focus
        refine JL.pure rfl rfl (OpP.pickT rfl rfl) ?_
        refine JL.pure rfl rfl (OpP.assign rfl) ?_
        refine JL.nil ?_
        refine J.ret1 rfl rfl ?_
      rotate_left 1
      focus
        refine JL.pure rfl rfl (OpP.pickT rfl rfl) ?_
        refine JL.pure rfl rfl (OpP.assign rfl) ?_
        refine JL.nil ?_
        refine J.ret1 rfl rfl ?_
      rotate_left 1
    rotate_left 2
    focus
      refine JL.pure rfl rfl (OpP.move rfl) ?_
      refine JL.skip rfl rfl ?_
      refine JL.skip rfl rfl ?_
      refine JL.skip rfl rfl ?_
      refine JL.pure rfl rfl (OpP.pickF rfl rfl) ?_
      refine JL.pure rfl rfl (OpP.assign rfl) ?_
      refine JL.nil ?_
      refine J.ret1 rfl rfl ?_
    rotate_left 1
    · exact ⟨true, rfl, rfl, fun _ => ⟨by omega, by omega⟩⟩
    · exact ⟨false, rfl, rfl, fun h => by cases h⟩
    · exact ⟨false, rfl, rfl, fun h => by cases h⟩
theorem Joined_ok {w0 : World} {F : List HProp} {v : Value} {ps : List (Value × List UInt8)} (hn : (cat ps).length ≤ 1000000) (hpl : ps.length ≤ 9223372036854775807) (hp : Parts w0 F v ps) :
    FnO Tryd.prog w0 17 [v] F (fun r l' => l' = own 5 1 r (cat ps).length (bcells (cat ps)) :: F) := by
  refine FnO.rdF (fun _ h => h) hp.rd fun hr0 => ?_
  obtain ⟨va, vc, rfl⟩ := hr0.lit
  refine FnO.weak ?_
  refine FnO.intro (n := 18) Tryd.func17 rfl rfl rfl ?_
  refine J.seq ?_
  refine J.region ?_
  refine JL.pure rfl rfl (OpP.assign rfl) ?_
  refine JL.nil ?_
  refine J.seq ?_
  refine J.region ?_
  refine JL.pure rfl rfl (OpP.assign rfl) ?_
  refine JL.nil ?_
  refine J.seq ?_
  refine J.seq ?_
  refine J.region ?_
  refine JL.pure rfl rfl (OpP.assign rfl) ?_
  refine JL.nil ?_
  refine J.block ?_
  refine J.loopI (fun x : Nat × Value => ps.length - x.1) (fun x => x.1 ≤ ps.length) (fun x => [(4, .int .i64 (x.1 : Nat)), (3, x.2), (0, .slice va ps.length vc)])
    (fun x => own 5 1 x.2 (cat (ps.take x.1)).length (bcells (cat (ps.take x.1))) :: F) (0, .slice none 0 0) (Nat.zero_le _) (by repeat (first | exact SubEnv.nil | refine SubEnv.cons (by first | rfl | exact congrArg (fun z => some (Value.int .i64 z)) (by omega) | (simp; done)) ?_)) (fun _ h => Own.own_nil h) (fun ⟨i, sv⟩ hi back => ?_)
  dsimp only at hi back ⊢
  by_cases hlt : i < ps.length
  · obtain ⟨pa, pc, p, hpi, hpv, hpr⟩ := hp.at hlt
    have hct := cat_take hpi
    have hct2 := congrArg List.length hct
    have hcl := cat_take_le ps (i + 1)
    rw [List.length_append] at hct2
    have hbl : (bcells p).length = p.length * 1 := by rw [bcells_length]; omega
    refine J.lit .head fun asv csv esv => ?_; subst esv
    refine J.seq ?_
    refine J.seq ?_
    refine J.region ?_
    refine JL.pure rfl rfl (OpP.move rfl) ?_
    refine JL.pure rfl rfl (OpP.move rfl) ?_
    refine JL.pure rfl rfl (OpP.len rfl rfl) ?_
    refine JL.decT rfl rfl (OpP.lss rfl rfl) (by omega) ?_
    refine JL.nil ?_
    refine J.condT rfl ?_
    refine J.skip ?_
    refine J.seq ?_
    refine J.block ?_
    refine J.region ?_
    refine JL.pure rfl rfl (OpP.move rfl) ?_
    refine JL.pure rfl rfl (OpP.move rfl) ?_
    refine JL.pure rfl rfl (OpP.move rfl) ?_
    obtain ⟨gva, pva, qva, eva, kva, cva⟩ := hr0.pos (by omega); cases eva
    refine JL.pure rfl rfl (OpP.indexAddr rfl rfl (by omega) (by omega)) ?_
    refine JL.read rfl rfl (OpR.load1 rfl (by apply Cells.cell cva (fun _ h => Own.pick (pre := [_]) [] rfl h); (case' hv => assumption); (case' ho => omega); done)) ?_
    refine JL.mem rfl rfl (OpM.appendH rfl (.inl ⟨_, Sl.und inferInstance⟩) (by rfl) rfl rfl (RdO.src (hpr.conv fun _ h => Own.pick (pre := [_]) [] rfl h) (by first | assumption | exact fc_length _ _ | (simp; done) | (simp; omega))) (by first | exact bcells_one _ | exact scells_one _ | exact icells_one _ | assumption | exact fc_one fun _ => rfl) (by simp only [maxLen]; omega) (by omega)) ?_; rintro _ _ ⟨⟨a16, c16, rfl⟩, rfl⟩
    refine JL.pure rfl rfl (OpP.assign rfl) ?_
    refine JL.nil ?_
    refine J.inBlock ?_
    refine J.region ?_
    refine JL.pure rfl rfl (OpP.move rfl) ?_
    refine JL.pure rfl rfl (OpP.addI rfl rfl (by omega) (by omega)) ?_
    refine JL.pure rfl rfl (OpP.assign rfl) ?_
    refine JL.nil ?_
    refine back (i + 1, .slice a16 ((cat (ps.take i)).length + p.length) c16) (by dsimp only; omega) (by dsimp only; omega) (by repeat (first | exact SubEnv.nil | refine SubEnv.cons (by first | rfl | exact congrArg (fun z => some (Value.int .i64 z)) (by omega) | (simp; done)) ?_)) (fun _ h => ?_)
    dsimp only
    rw [hct, List.length_append, bcells_append]
    exact h
  · have : i = ps.length := by omega
    subst this
    rw [List.take_length]
    refine J.lit .head fun asv csv esv => ?_; subst esv
    refine J.seq ?_
    refine J.seq ?_
    refine J.region ?_
    refine JL.pure rfl rfl (OpP.move rfl) ?_
    refine JL.pure rfl rfl (OpP.move rfl) ?_
    refine JL.pure rfl rfl (OpP.len rfl rfl) ?_
    refine JL.decF rfl rfl (OpP.lss rfl rfl) (by omega) ?_
    refine JL.nil ?_
    refine J.condF rfl ?_
    refine J.exit rfl ?_
    refine J.seq ?_
    refine J.region ?_
    refine JL.pure rfl rfl (OpP.move rfl) ?_
    refine JL.pure rfl rfl (OpP.assign rfl) ?_
    refine JL.nil ?_
    refine J.ret1 rfl rfl ?_
    exact ⟨_, rfl, fun _ h => h⟩
theorem ShaOf_ok {w0 : World} {v : Value} {ps : List (Value × List UInt8)} (hK : Tab w0 0 64 fun j => w32 (Kc j)) (hpl : ps.length ≤ 9223372036854775807) (hp : Parts w0 [] v ps) :
    FnO Tryd.prog w0 3 [v] [] (fun v _ => v = .bool true) := by
  refine FnO.intro (n := 17) Tryd.func3 rfl rfl rfl ?_
  have hK2 : ∀ i, i < 64 → hexOk constS i (Kc i) = true := fun i hi => List.all_eq_true.1 hexK i (List.mem_range.2 hi)
  refine J.seq ?_
  refine J.region ?_
  refine JL.pure rfl rfl (OpP.assign rfl) ?_
  refine JL.nil ?_
  refine J.seq ?_
  refine J.seq ?_
  refine J.region ?_
  refine JL.step rfl rfl (OpW.call (first := []) (captured := []) inferInstance rfl rfl (Awake_ok hK)) ?_; rintro r3 _ ⟨rfl, rfl⟩
  refine JL.pure rfl rfl (OpP.notB rfl) ?_
  refine JL.pure rfl rfl (OpP.move rfl) ?_
  refine JL.pure rfl rfl (OpP.move rfl) ?_
  refine JL.step rfl rfl (OpW.call (first := []) (captured := []) inferInstance rfl rfl (Few_ok (most := 1000) (by omega) hpl (hp.conv (fun _ h => h.none)))) ?_; rintro r7 _ ⟨b, ⟨rfl, ⟨rfl, h7⟩⟩⟩
  refine JL.pure rfl rfl (OpP.notB rfl) ?_
  refine JL.pure rfl rfl (OpP.pickF rfl rfl) ?_
  refine JL.nil ?_
  refine J.splitAt 9 rfl (fun h9 => ?_) (fun h9 => ?_)
  focus
    refine J.condT rfl ?_
    refine J.seq ?_
    refine J.region ?_
    refine JL.step rfl rfl (OpW.call (first := []) (captured := []) inferInstance rfl rfl (Awake_ok hK)) ?_; rintro r10 _ ⟨rfl, rfl⟩
    refine JL.pure rfl rfl (OpP.assign rfl) ?_
    refine JL.nil ?_
    refine J.ret1 rfl rfl ?_
  rotate_left 1
  focus
    refine J.condF rfl ?_
    refine J.skip ?_
  rotate_left 1
  · rfl
  · obtain ⟨hn, _⟩ := h7 (by cases b <;> first | rfl | cases h9)
    have h1 : (cat ps).length ≤ 900000 := by omega
    have h2 : (cat ps).length ≤ 1000000 := by omega
    have h3 : (cat ps).length ≤ 100000 := by omega
    refine J.seq ?_
    refine J.region ?_
    refine JL.pure rfl rfl (OpP.move rfl) ?_
    refine JL.step rfl rfl (OpW.call (first := []) (captured := []) inferInstance rfl rfl (Of_ok hK h1 hpl (hp.conv (fun _ h => h.none)))) ?_; rintro r12 _ ⟨rfl, rfl⟩
    refine JL.pure rfl rfl (OpP.move rfl) ?_
    refine JL.step rfl rfl (OpW.call (first := []) (captured := []) inferInstance rfl rfl (Joined_ok h2 hpl (hp.conv (fun _ h => h.none)))) ?_; rintro r14 _ rfl
    refine JL.lit .head fun ar14 cr14 er14 => ?_; subst er14
    refine JL.step rfl rfl (OpW.call (first := []) (captured := []) inferInstance rfl rfl (RefSum_ok hK2 h3 (RdO.own .head))) ?_; rintro r15 _ ⟨rfl, rfl⟩
    refine JL.pure rfl rfl (OpP.eqBytes rfl rfl (by first | assumption | exact Go.Proofs.B.shaB_length _ _ | solve_by_elim) (by first | assumption | exact Go.Proofs.B.shaB_length _ _ | solve_by_elim)) ?_
    refine JL.pure rfl rfl (OpP.assign rfl) ?_
    refine JL.nil ?_
    refine J.ret1 rfl rfl ?_
    rw [decide_eq_true rfl]
theorem hexKc : ∀ i, i < 64 → hexOk constS i (Kc i) = true := fun i hi => List.all_eq_true.1 hexK i (List.mem_range.2 hi)
theorem ShaOf_law {W : World} {a : Option Addr} {n c : Nat} (hK : Tab W 0 64 fun j => w32 (Kc j)) (h : Fm Tryd.prog W 22 [.slice a n c]) :
    Calls Tryd.prog 3 #[.slice a n c] W fun e w' => e = .returned (.bool true) ∧ Below W.heap.size W w' := by
  obtain ⟨ps, hl, _, hp⟩ := Fm.parts Tryd.underlying22 Tryd.underlying29 Tryd.underlying5 (by kernel_rfl) (by kernel_rfl) h
  exact FnO.law (args := [.slice a n c]) (ShaOf_ok hK (by simp only [maxLen] at hl; omega) hp) (Own.nil W)
end Go.Proofs.B
