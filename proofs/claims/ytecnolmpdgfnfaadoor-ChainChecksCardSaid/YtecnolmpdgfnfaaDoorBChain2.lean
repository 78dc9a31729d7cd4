/- A text of the proof of a statement about the given program: its part BChain2. No person has read it. -/
import Derived.Test.YtecnolmpdgfnfaaDoorBChain
import Derived.Test.YtecnolmpdgfnfaaDoorJ26
-- seat b
namespace Go.Proofs.B
open Go Go.Gp Go.RowKit

theorem All1_ok {w0 : World} {F : List HProp} {v : Value} {a : Option Addr} {c : Nat} {l : List UInt8} {K : Ws} (hK : Tab w0 0 64 fun j => w32 (K j)) (hl : l.length ≤ 80000) (hp : Parts w0 F v [(.slice a l.length c, l)]) :
    FnO Tryd.prog w0 27 [v] F (fun r l' => r = .agg (hdC (shaB K (linkT h0 l)) 1).toArray ∧ l' = F) :=
  All_ok hK (by intro p hp; simp at hp; subst hp; exact hl) (Nat.le_of_ble_eq_true rfl) hp
theorem RefLink0_ok {w0 : World} {F : List HProp} {rc : List UInt8} {v : Value} {K : Ws} (hK : ∀ i, i < 64 → hexOk constS i (K i) = true) (hl : rc.length ≤ 80000) (hr : RdO w0 F v rc.length (bcells rc)) :
    FnO Tryd.prog w0 24 [.agg (List.replicate 32 (Value.int .u8 0)).toArray, v] F (fun r l' => r = .agg (bcells (shaB K (linkT h0 rc))).toArray ∧ l' = F) := by
  rw [← h0_c]
  exact RefLink_ok hK (by simp [h0]) hl hr
theorem Awake5_ok {w0 : World} {F : List HProp} {K : Ws} (hK : Tab w0 0 64 fun j => w32 (K j)) (hK2 : ∀ i, i < 64 → hexOk constS i (K i) = true) :
    FnO Tryd.prog w0 25 [] F (fun v l' => v = .bool true ∧ l' = F) := by
  refine FnO.weak ?_
  refine FnO.intro (n := 18) Tryd.func25 rfl rfl rfl ?_
  have h97 : [(97 : UInt8)].length ≤ 80000 := by decide
  refine J.seq ?_
  refine J.region ?_
  refine JL.pure rfl rfl (OpP.assign rfl) ?_
  refine JL.nil ?_
  refine J.seq ?_
  refine J.region ?_
  refine JL.mem rfl rfl (by apply OpM.buildSlice (by rfl) rfl (by rfl); (repeat (first | exact Fills.nil | (apply Fills.cons rfl rfl rfl; (case' hs => ((repeat (first | exact Spl.nil | apply Spl.here | apply Spl.there)); done)))))) ?_; rintro _ _ ⟨b2, rfl, rfl⟩
  refine JL.mem rfl rfl (OpM.bytesMark rfl .head) ?_; rintro _ _ ⟨rfl, rfl⟩
  refine JL.mem rfl rfl (by apply OpM.buildSlice (by rfl) rfl (by rfl); (repeat (first | exact Fills.nil | (apply Fills.cons rfl rfl rfl; (case' hs => ((repeat (first | exact Spl.nil | apply Spl.here | apply Spl.there)); done)))))) ?_; rintro _ _ ⟨b4, rfl, rfl⟩
  refine JL.step rfl rfl (OpW.call (first := []) (captured := []) inferInstance rfl rfl (All1_ok (l := [97]) hK h97 (Parts.row1 .head (RdO.ofRdo (.tail .head) (by first | exact Nat.le_refl _ | decide | omega)) (Nat.le_refl _)))) ?_; rintro r5 _ ⟨rfl, rfl⟩
  refine JL.mem rfl rfl OpM.alloc ?_; rintro _ _ ⟨b1, rfl, rfl⟩
  refine JL.mem0 rfl (by apply OpM.storeN rfl rfl (hdC_len (by first | assumption | exact Go.Proofs.B.shaB_length _ _ | solve_by_elim)) hdC_one; (case' hu => exact .head); (case' hs => exact spl_all (by first | (rw [hdC_len (by first | assumption | exact Go.Proofs.B.shaB_length _ _ | solve_by_elim), hdC_len (by first | assumption | exact Go.Proofs.B.shaB_length _ _ | solve_by_elim)]; done) | (rw [hdC_len (by first | assumption | exact Go.Proofs.B.shaB_length _ _ | solve_by_elim)]; rfl))); done) ?_; rintro _ _ ⟨rfl, rfl⟩
  refine JL.nil ?_
  refine J.seq ?_
  refine J.regionD [1, 5] (by kernel_rfl) ?_
  refine DL.pure (i := 0) (by kernel_rfl) (by kernel_rfl) rfl rfl rfl (OpP.fieldAddr rfl) ?_
  refine DL.read (i := 1) (by kernel_rfl) (by kernel_rfl) rfl rfl rfl (fun _ h => h) (OpR.load1 rfl (Cell.hd1 .head (by first | assumption | exact Go.Proofs.B.shaB_length _ _ | solve_by_elim))) ?_
  refine DL.decT (i := 2) (by kernel_rfl) (by kernel_rfl) rfl rfl rfl (OpP.eql rfl rfl) (by omega) ?_
  refine DL.pure (i := 3) (by kernel_rfl) (by kernel_rfl) rfl rfl rfl (OpP.move rfl) ?_
  refine DL.pure (i := 4) (by kernel_rfl) (by kernel_rfl) rfl rfl rfl (OpP.fieldAddr rfl) ?_
  refine DL.read (i := 5) (by kernel_rfl) (by kernel_rfl) rfl rfl rfl (fun _ h => h) (OpR.loadN rfl (Cells.hd0 .head (by first | assumption | exact Go.Proofs.B.shaB_length _ _ | solve_by_elim)) (by rw [bcells_length]; exact (by first | assumption | exact Go.Proofs.B.shaB_length _ _ | solve_by_elim))) ?_
  refine DL.pure (i := 6) (by kernel_rfl) (by kernel_rfl) rfl rfl rfl (OpP.buildA rfl (by (repeat (first | exact Fills.nil | (apply Fills.cons rfl rfl rfl; (case' hs => ((repeat (first | exact Spl.nil | apply Spl.here | apply Spl.there)); done))))))) ?_
  refine DL.only (i := 7) (by kernel_rfl) ?_
  refine DL1.stepK rfl rfl rfl (OpM.w (by apply OpM.buildSlice (by rfl) rfl (by rfl); (repeat (first | exact Fills.nil | (apply Fills.cons rfl rfl rfl; (case' hs => ((repeat (first | exact Spl.nil | apply Spl.here | apply Spl.there)); done))))))) (by rintro _ _ ⟨b13, rfl, rfl⟩ _ h; exact Own.pick (pre := [_, _, _, _]) [1, 2, 3] rfl h) ?_; rintro _ _ ⟨b13, rfl, rfl⟩
  refine DL.only (i := 8) (by kernel_rfl) ?_
  refine DL1.stepK rfl rfl rfl (OpM.w (OpM.bytesMark rfl .head)) (by rintro _ _ ⟨rfl, rfl⟩ _ h; exact Own.pick (pre := [_, _, _, _]) [1, 2, 3] rfl h) ?_; rintro _ _ ⟨rfl, rfl⟩
  refine DL.only (i := 9) (by kernel_rfl) ?_
  refine DL1.stepK rfl rfl rfl (by exact OpW.call (first := []) (captured := []) inferInstance rfl rfl (RefLink0_ok (rc := [97]) hK2 h97 (RdO.ofRdo .head (by first | exact Nat.le_refl _ | decide | omega)))) (by rintro _ _ ⟨rfl, rfl⟩ _ h; exact Own.pick (pre := [_, _, _, _]) [1, 2, 3] rfl h) ?_; rintro r15 _ ⟨rfl, rfl⟩
  refine DL.pure (i := 10) (by kernel_rfl) (by kernel_rfl) rfl rfl rfl (OpP.eqBytes rfl rfl (by first | assumption | exact Go.Proofs.B.shaB_length _ _ | solve_by_elim) (by first | assumption | exact Go.Proofs.B.shaB_length _ _ | solve_by_elim)) ?_
  refine DL.pure (i := 11) (by kernel_rfl) (by kernel_rfl) rfl rfl rfl (OpP.pickT rfl rfl) ?_
  refine DL.pure (i := 12) (by kernel_rfl) (by kernel_rfl) rfl rfl rfl (OpP.assign rfl) ?_
  refine DL.done (by kernel_rfl) ?_
  refine J.ret1 rfl rfl ?_
  exact ⟨_, ⟨congrArg Value.bool (decide_eq_true rfl), rfl⟩, fun _ h => h.tail.tail.tail.tail⟩
theorem Few5_ok {w0 : World} {F : List HProp} {v : Value} {m most : Int} {ps : List (Value × List UInt8)} (hm1 : m ≤ 199) (hm : most ≤ 9999) (hpl : ps.length ≤ 9223372036854775807) (hp : Parts w0 F v ps) :
    FnO Tryd.prog w0 26 [v, .int .i64 m, .int .i64 most] F (fun r l' => ∃ b, r = .bool b ∧ l' = F ∧ (b = true → ((cat ps).length : Int) ≤ most ∧ (ps.length : Int) ≤ m)) := by
  refine FnO.rdF (fun _ h => h) hp.rd fun hr0 => ?_
  obtain ⟨va, vc, rfl⟩ := hr0.lit
  refine FnO.intro (n := 36) Tryd.func26 rfl rfl rfl ?_
  refine J.seq ?_
  refine J.region ?_
  refine JL.pure rfl rfl (OpP.assign rfl) ?_
  refine JL.nil ?_
  refine J.seq ?_
  refine J.region ?_
  refine JL.pure rfl rfl (OpP.assign rfl) ?_
  refine JL.nil ?_
  refine J.seq ?_
  refine J.seq ?_
  refine J.region ?_
  refine JL.pure rfl rfl (OpP.assign rfl) ?_
  refine JL.nil ?_
  refine J.block ?_
  refine J.loopI (fun x : Nat × Nat => ps.length - x.1) (fun x => x.1 ≤ ps.length ∧ x.1 ≤ 200 ∧ x.2 ≤ x.1 * 10000 ∧ (x.2 ≤ 9999 → x.2 = (cat (ps.take x.1)).length)) (fun x => [(8, .int .i64 (x.1 : Nat)), (7, .int .i64 (x.2 : Nat)), (0, .slice va ps.length vc), (1, .int .i64 m), (2, .int .i64 most)])
    (fun _ => F) (0, 0) ⟨Nat.zero_le _, Nat.zero_le _, Nat.le_refl _, fun _ => rfl⟩ (by repeat (first | exact SubEnv.nil | refine SubEnv.cons (by first | rfl | exact congrArg (fun z => some (Value.int .i64 z)) (by omega) | (simp; done)) ?_)) (fun _ h => h) (fun ⟨i, n⟩ hi back => ?_)
  dsimp only at hi back ⊢
  obtain ⟨hi1, hi2, hi3, hi4⟩ := hi
  by_cases hlt : i < ps.length
  · by_cases h2 : i < 200
    · obtain ⟨pa, pc, p, hpi, hpv, hpr⟩ := hp.at hlt
      have hct2 := congrArg List.length (cat_take hpi)
      rw [List.length_append] at hct2
      refine J.seq ?_
      refine J.seq ?_
      refine J.region ?_
      refine JL.pure rfl rfl (OpP.move rfl) ?_
      refine JL.pure rfl rfl (OpP.move rfl) ?_
      refine JL.pure rfl rfl (OpP.len rfl rfl) ?_
      refine JL.decT rfl rfl (OpP.lss rfl rfl) (by omega) ?_
      refine JL.pure rfl rfl (OpP.move rfl) ?_
      refine JL.pure rfl rfl (OpP.move rfl) ?_
      refine JL.decT rfl rfl (OpP.lss rfl rfl) (by omega) ?_
      refine JL.pure rfl rfl (OpP.pickT rfl rfl) ?_
      refine JL.nil ?_
      refine J.condT rfl ?_
      refine J.skip ?_
      refine J.seq ?_
      refine J.block ?_
      refine J.region ?_
      refine JL.pure rfl rfl (OpP.move rfl) ?_
      refine JL.pure rfl rfl (OpP.move rfl) ?_
      refine JL.pure rfl rfl (OpP.move rfl) ?_
      obtain ⟨gva, pva, qva, eva, kva, cva⟩ := hr0.pos (by omega); cases eva
      refine JL.pure rfl rfl (OpP.indexAddr rfl rfl (by omega) (by omega)) ?_
      refine JL.read rfl rfl (OpR.load1 rfl (by apply Cells.cell cva (fun _ h => h); (case' hv => assumption); (case' ho => omega); done)) ?_
      refine JL.pure rfl rfl (OpP.len rfl rfl) ?_
      refine JL.pure rfl rfl (OpP.min rfl rfl) ?_
      refine JL.pure rfl rfl (OpP.addI rfl rfl (by omega) (by omega)) ?_
      refine JL.pure rfl rfl (OpP.assign rfl) ?_
      refine JL.nil ?_
      refine J.inBlock ?_
      refine J.region ?_
      refine JL.pure rfl rfl (OpP.move rfl) ?_
      refine JL.pure rfl rfl (OpP.addI rfl rfl (by omega) (by omega)) ?_
      refine JL.pure rfl rfl (OpP.assign rfl) ?_
      refine JL.nil ?_
      refine back (i + 1, n + min p.length 10000) ⟨by dsimp only; omega, by dsimp only; omega, by dsimp only; omega, fun h => by dsimp only at h ⊢; rw [hct2]; omega⟩ (by dsimp only; omega) (by repeat (first | exact SubEnv.nil | refine SubEnv.cons (by first | rfl | exact congrArg (fun z => some (Value.int .i64 z)) (by omega) | (simp; done)) ?_)) (fun _ h => h)
    · refine J.seq ?_
      refine J.seq ?_
      refine J.region ?_
      refine JL.pure rfl rfl (OpP.move rfl) ?_
      refine JL.pure rfl rfl (OpP.move rfl) ?_
      refine JL.pure rfl rfl (OpP.len rfl rfl) ?_
      refine JL.decT rfl rfl (OpP.lss rfl rfl) (by omega) ?_
      refine JL.pure rfl rfl (OpP.move rfl) ?_
      refine JL.pure rfl rfl (OpP.move rfl) ?_
      refine JL.decF rfl rfl (OpP.lss rfl rfl) (by omega) ?_
      refine JL.pure rfl rfl (OpP.pickT rfl rfl) ?_
      refine JL.nil ?_
      refine J.condF rfl ?_
      refine J.exit rfl ?_
      refine J.seq ?_
      refine J.region ?_
      refine JL.pure rfl rfl (OpP.move rfl) ?_
      refine JL.pure rfl rfl (OpP.len rfl rfl) ?_
      refine JL.pure rfl rfl (OpP.move rfl) ?_
      refine JL.decF rfl rfl (OpP.leq rfl rfl) (by omega) ?_
      refine JL.pure rfl rfl (OpP.move rfl) ?_
      refine JL.skip rfl rfl ?_
      refine JL.skip rfl rfl ?_
      refine JL.skip rfl rfl ?_
      refine JL.pure rfl rfl (OpP.pickF rfl rfl) ?_
      refine JL.pure rfl rfl (OpP.assign rfl) ?_
      refine JL.nil ?_
      refine J.ret1 rfl rfl ?_
      exact ⟨false, rfl, rfl, fun h => by cases h⟩
  · have : i = ps.length := by omega
    subst this
    rw [List.take_length] at hi4
    refine J.seq ?_
    refine J.seq ?_
    refine J.region ?_
    refine JL.pure rfl rfl (OpP.move rfl) ?_
    refine JL.pure rfl rfl (OpP.move rfl) ?_
    refine JL.pure rfl rfl (OpP.len rfl rfl) ?_
    refine JL.decF rfl rfl (OpP.lss rfl rfl) (by omega) ?_
    refine JL.pure rfl rfl (OpP.move rfl) ?_
    refine JL.skip rfl rfl ?_
    refine JL.skip rfl rfl ?_
    refine JL.pure rfl rfl (OpP.pickF rfl rfl) ?_
    refine JL.nil ?_
    refine J.condF rfl ?_
    refine J.exit rfl ?_
    refine J.seq ?_
    refine J.region ?_
    refine JL.pure rfl rfl (OpP.move rfl) ?_
    refine JL.pure rfl rfl (OpP.len rfl rfl) ?_
    refine JL.pure rfl rfl (OpP.move rfl) ?_
    refine JL.dec rfl rfl (OpP.leq rfl rfl) (fun h30 => ?_) (fun h30 => ?_)
    focus
      refine JL.pure rfl rfl (OpP.move rfl) ?_
      refine JL.pure rfl rfl (OpP.move rfl) ?_
      refine JL.pure rfl rfl (OpP.move rfl) ?_
      refine JL.dec rfl rfl (OpP.leq rfl rfl) (fun h34 => ?_) (fun h34 => ?_)
      focus
        refine JL.pure rfl rfl (OpP.pickT rfl rfl) ?_
        refine JL.pure rfl rfl (OpP.assign rfl) ?_
        refine JL.nil ?_
        refine J.ret1 rfl rfl ?_
      rotate_left 1
      focus
        refine JL.pure rfl rfl (OpP.pickT rfl rfl) ?_
        refine JL.pure rfl rfl (OpP.assign rfl) ?_
        refine JL.nil ?_
        refine J.ret1 rfl rfl ?_
      rotate_left 1
    rotate_left 2
    focus
      refine JL.pure rfl rfl (OpP.move rfl) ?_
      refine JL.skip rfl rfl ?_
      refine JL.skip rfl rfl ?_
      refine JL.skip rfl rfl ?_
      refine JL.pure rfl rfl (OpP.pickF rfl rfl) ?_
      refine JL.pure rfl rfl (OpP.assign rfl) ?_
      refine JL.nil ?_
      refine J.ret1 rfl rfl ?_
    rotate_left 1
    · exact ⟨true, rfl, rfl, fun _ => ⟨by omega, by omega⟩⟩
    · exact ⟨false, rfl, rfl, fun h => by cases h⟩
    · exact ⟨false, rfl, rfl, fun h => by cases h⟩
theorem recs_le {ps : List (Value × List UInt8)} : ∀ p ∈ ps, p.2.length ≤ (cat ps).length := by
  intro p hp
  obtain ⟨i, hi⟩ := List.getElem?_of_mem hp
  have h1 := cat_take (v := p.1) (l := p.2) hi
  have h2 := cat_take_le ps (i + 1)
  rw [h1, List.length_append] at h2
  omega
theorem NextH_ok {w0 : World} {F : List HProp} {h rc : List UInt8} {n : Nat} {v : Value} {K : Ws} (hK : Tab w0 0 64 fun j => w32 (K j)) (hl : h.length = 32) (hrl : rc.length ≤ 80000) (h2 : n ≤ 9223372036854775806) (hr : RdO w0 F v rc.length (bcells rc)) :
    FnO Tryd.prog w0 28 [.agg (hdC h (n : Nat)).toArray, v] F (fun r l' => r = .agg (hdC (shaB K (linkT h rc)) ((n + 1 : Nat) : Int)).toArray ∧ l' = F) := by
  have h := Next_ok2 hK hl hrl (n := (n : Int)) (by omega) (by omega) hr
  rw [show ((n + 1 : Nat) : Int) = (n : Int) + 1 by omega]
  exact h
theorem ChainHeads_ok {w0 : World} {v : Value} {ps : List (Value × List UInt8)} {K : Ws} (hA : IsAwake w0 25) (hK : Tab w0 0 64 fun j => w32 (K j)) (hK2 : ∀ i, i < 64 → hexOk constS i (K i) = true) (hpl : ps.length ≤ 9223372036854775807) (hp : Parts w0 [] v ps) :
    FnO Tryd.prog w0 8 [v] [] (fun v _ => v = .bool true) := by
  refine FnO.rdF (fun _ h => h) hp.rd fun hp0 => ?_
  obtain ⟨va, vc, rfl⟩ := hp0.lit
  refine FnO.intro (n := 51) Tryd.func8 rfl rfl rfl ?_
  refine J.seq ?_
  refine J.region ?_
  refine JL.pure rfl rfl (OpP.assign rfl) ?_
  refine JL.nil ?_
  refine J.seq ?_
  refine J.seq ?_
  refine J.region ?_
  refine JL.step rfl rfl (OpW.call (first := []) (captured := []) inferInstance rfl rfl (hA _)) ?_; rintro r6 _ ⟨rfl, rfl⟩
  refine JL.pure rfl rfl (OpP.notB rfl) ?_
  refine JL.pure rfl rfl (OpP.move rfl) ?_
  refine JL.pure rfl rfl (OpP.move rfl) ?_
  refine JL.step rfl rfl (OpW.call (first := []) (captured := []) inferInstance rfl rfl (Few5_ok (m := 20) (most := 600) (by omega) (by omega) hpl (hp.conv (fun _ h => h.none)))) ?_; rintro r10 _ ⟨b, ⟨rfl, ⟨rfl, h10⟩⟩⟩
  refine JL.pure rfl rfl (OpP.notB rfl) ?_
  refine JL.pure rfl rfl (OpP.pickF rfl rfl) ?_
  refine JL.nil ?_
  refine J.splitAt 12 rfl (fun h12 => ?_) (fun h12 => ?_)
  focus
    refine J.condT rfl ?_
    refine J.seq ?_
    refine J.region ?_
    refine JL.step rfl rfl (OpW.call (first := []) (captured := []) inferInstance rfl rfl (hA _)) ?_; rintro r13 _ ⟨rfl, rfl⟩
    refine JL.pure rfl rfl (OpP.assign rfl) ?_
    refine JL.nil ?_
    refine J.ret1 rfl rfl ?_
  rotate_left 1
  focus
    refine J.condF rfl ?_
    refine J.skip ?_
  rotate_left 1
  · rfl
  obtain ⟨hn, hm⟩ := h10 (by cases b <;> first | rfl | cases h12)
  have hrl : ∀ p ∈ ps, p.2.length ≤ 80000 := fun p hp => by have := recs_le p hp; omega
  have hl0 : h0.length = 32 := by simp [h0]
  have hhl := hsh_len (K := K) hl0 (recs ps)
  refine J.seq ?_
  refine J.region ?_
  refine JL.pure rfl rfl (OpP.move rfl) ?_
  refine JL.step rfl rfl (OpW.call (first := []) (captured := []) inferInstance rfl rfl (All_ok hK hrl hpl (hp.conv (fun _ h => h.none)))) ?_; rintro r15 _ ⟨rfl, rfl⟩
  refine JL.mem rfl rfl OpM.alloc ?_; rintro _ _ ⟨b3, rfl, rfl⟩
  refine JL.mem0 rfl (by apply OpM.storeN rfl rfl (hdC_len (by first | assumption | exact Go.Proofs.B.shaB_length _ _ | solve_by_elim)) hdC_one; (case' hu => exact .head); (case' hs => exact spl_all (by first | (rw [hdC_len (by first | assumption | exact Go.Proofs.B.shaB_length _ _ | solve_by_elim), hdC_len (by first | assumption | exact Go.Proofs.B.shaB_length _ _ | solve_by_elim)]; done) | (rw [hdC_len (by first | assumption | exact Go.Proofs.B.shaB_length _ _ | solve_by_elim)]; rfl))); done) ?_; rintro _ _ ⟨rfl, rfl⟩
  refine JL.nil ?_
  refine J.seq ?_
  refine J.region ?_
  refine JL.pure rfl rfl (OpP.build rfl (by (repeat (first | exact Fills.nil | (apply Fills.cons rfl rfl rfl; (case' hs => ((repeat (first | exact Spl.nil | apply Spl.here | apply Spl.there)); done))))))) ?_
  refine JL.mem rfl rfl OpM.alloc ?_; rintro _ _ ⟨b4, rfl, rfl⟩
  refine JL.mem0 rfl (by apply OpM.storeN rfl rfl (by rfl) (oneC rfl (oneC rfl (oneC rfl (oneC rfl (oneC rfl (oneC rfl (oneC rfl (oneC rfl (oneC rfl (oneC rfl (oneC rfl (oneC rfl (oneC rfl (oneC rfl (oneC rfl (oneC rfl (oneC rfl (oneC rfl (oneC rfl (oneC rfl (oneC rfl (oneC rfl (oneC rfl (oneC rfl (oneC rfl (oneC rfl (oneC rfl (oneC rfl (oneC rfl (oneC rfl (oneC rfl (oneC rfl (one1 rfl))))))))))))))))))))))))))))))))); (case' hu => exact .head); (case' hs => exact (.here (.here (.here (.here (.here (.here (.here (.here (.here (.here (.here (.here (.here (.here (.here (.here (.here (.here (.here (.here (.here (.here (.here (.here (.here (.here (.here (.here (.here (.here (.here (.here (.here .nil)))))))))))))))))))))))))))))))))); done) ?_; rintro _ _ ⟨rfl, rfl⟩
  refine JL.nil ?_
  refine J.seq ?_
  refine J.seq ?_
  refine J.region ?_
  refine JL.pure rfl rfl (OpP.assign rfl) ?_
  refine JL.nil ?_
  refine J.block ?_
  rw [← h0_cells]
  refine J.loopI (fun i : Nat => ps.length - i) (fun i => i ≤ ps.length) (fun i => [(5, .int .i64 (i : Nat)), (4, .pointer (some ⟨b4, 0, none⟩)), (3, .pointer (some ⟨b3, 0, none⟩)), (0, .slice va ps.length vc)])
    (fun i => [row b4 55 (hdC (hsh K h0 (recs (ps.take i))) (i : Nat)), row b3 55 (hdC (hsh K h0 (recs ps)) (ps.length : Nat))]) 0 (Nat.zero_le _) (by repeat (first | exact SubEnv.nil | refine SubEnv.cons (by first | rfl | exact congrArg (fun z => some (Value.int .i64 z)) (by omega) | (simp; done)) ?_)) (fun _ h => h) (fun i hi back => ?_)
  dsimp only at hi back ⊢
  by_cases hlt : i < ps.length
  · obtain ⟨pa, pc, p, hpi, hpv, hpr⟩ := hp.at hlt
    have hct := recs_take hpi
    have hpl2 : p.length ≤ 80000 := hrl _ (List.mem_of_getElem? hpi)
    have hhi := hsh_len (K := K) hl0 (recs (ps.take i))
    have hsn := hsh_snoc K h0 (recs (ps.take i)) p
    rw [← hct] at hsn
    refine J.seq ?_
    refine J.seq ?_
    refine J.region ?_
    refine JL.pure rfl rfl (OpP.move rfl) ?_
    refine JL.pure rfl rfl (OpP.move rfl) ?_
    refine JL.pure rfl rfl (OpP.len rfl rfl) ?_
    refine JL.decT rfl rfl (OpP.lss rfl rfl) (by omega) ?_
    refine JL.nil ?_
    refine J.condT rfl ?_
    refine J.skip ?_
    refine J.seq ?_
    refine J.block ?_
    refine J.regionD [0, 4] (by kernel_rfl) ?_
    refine DL.read (i := 0) (by kernel_rfl) (by kernel_rfl) rfl rfl rfl (fun _ h => h) (OpR.loadN rfl (Cells.full .head) (hdC_len (by first | assumption | exact Go.Proofs.B.shaB_length _ _ | solve_by_elim))) ?_
    refine DL.pure (i := 1) (by kernel_rfl) (by kernel_rfl) rfl rfl rfl (OpP.move rfl) ?_
    refine DL.pure (i := 2) (by kernel_rfl) (by kernel_rfl) rfl rfl rfl (OpP.move rfl) ?_
    obtain ⟨gva, pva, qva, eva, kva, cva⟩ := hp0.pos (by omega); cases eva
    refine DL.pure (i := 3) (by kernel_rfl) (by kernel_rfl) rfl rfl rfl (OpP.indexAddr rfl rfl (by omega) (by omega)) ?_
    refine DL.read (i := 4) (by kernel_rfl) (by kernel_rfl) rfl rfl rfl (fun _ h => h) (OpR.load1 rfl (by apply Cells.cell cva (fun _ h => h.none); (case' hv => assumption); (case' ho => omega); done)) ?_
    refine DL.only (i := 5) (by kernel_rfl) ?_
    refine DL1.stepF rfl rfl rfl (by kernel_rfl) (by exact OpW.call (first := []) (captured := []) inferInstance rfl rfl (NextH_ok hK (by assumption) hpl2 (by first | assumption | omega | rfl | exact Nat.le_of_ble_eq_true rfl | (simp; omega)) (hpr.conv fun _ h => h.none))) ?_; rintro r28 _ ⟨rfl, rfl⟩
    refine DL.only (i := 6) (by kernel_rfl) ?_
    refine DL1.stepF0 rfl rfl (by kernel_rfl) (OpM.w (by apply OpM.storeN rfl rfl (hdC_len (by first | assumption | exact Go.Proofs.B.shaB_length _ _ | solve_by_elim)) hdC_one; (case' hu => exact .head); (case' hs => exact spl_all (by first | (rw [hdC_len (by first | assumption | exact Go.Proofs.B.shaB_length _ _ | solve_by_elim), hdC_len (by first | assumption | exact Go.Proofs.B.shaB_length _ _ | solve_by_elim)]; done) | (rw [hdC_len (by first | assumption | exact Go.Proofs.B.shaB_length _ _ | solve_by_elim)]; rfl))); done)) ?_; rintro _ _ ⟨rfl, rfl⟩
    refine DL.done (by kernel_rfl) ?_
    refine J.inBlock ?_
    refine J.region ?_
    refine JL.pure rfl rfl (OpP.move rfl) ?_
    refine JL.pure rfl rfl (OpP.addI rfl rfl (by omega) (by omega)) ?_
    refine JL.pure rfl rfl (OpP.assign rfl) ?_
    refine JL.nil ?_
    refine back (i + 1) (by omega) (by omega) (by repeat (first | exact SubEnv.nil | refine SubEnv.cons (by first | rfl | exact congrArg (fun z => some (Value.int .i64 z)) (by omega) | (simp; done)) ?_)) (fun _ h => ?_)
    rw [hsn]
    exact h
  · have : i = ps.length := by omega
    subst this
    rw [List.take_length]
    have hw : (Lit.int .i64 ((ps.length : Nat) : Int)).wf = true := by simp [Lit.wf, IntKind.min, IntKind.max, IntKind.signed, IntKind.bits]; omega
    refine J.seq ?_
    refine J.seq ?_
    refine J.region ?_
    refine JL.pure rfl rfl (OpP.move rfl) ?_
    refine JL.pure rfl rfl (OpP.move rfl) ?_
    refine JL.pure rfl rfl (OpP.len rfl rfl) ?_
    refine JL.decF rfl rfl (OpP.lss rfl rfl) (by omega) ?_
    refine JL.nil ?_
    refine J.condF rfl ?_
    refine J.exit rfl ?_
    refine J.seq ?_
    refine J.regionD [1, 7, 13, 14, 18] (by kernel_rfl) ?_
    refine DL.pure (i := 0) (by kernel_rfl) (by kernel_rfl) rfl rfl rfl (OpP.fieldAddr rfl) ?_
    refine DL.read (i := 1) (by kernel_rfl) (by kernel_rfl) rfl rfl rfl (fun _ h => h) (OpR.loadN rfl (Cells.hd0 (.tail .head) (by first | assumption | exact Go.Proofs.B.shaB_length _ _ | solve_by_elim)) (by rw [bcells_length]; exact (by first | assumption | exact Go.Proofs.B.shaB_length _ _ | solve_by_elim))) ?_
    refine DL.pure (i := 2) (by kernel_rfl) (by kernel_rfl) rfl rfl rfl (OpP.move rfl) ?_
    refine DL.only (i := 3) (by kernel_rfl) ?_
    refine DL1.stepK rfl rfl rfl (by exact OpW.call (first := []) (captured := []) inferInstance rfl rfl (Hash_ok hK2 hrl hpl (hp.conv (fun _ h => h.none)))) (by rintro _ _ ⟨rfl, rfl⟩ _ h; exact Own.pick (pre := [_, _]) [0, 1] rfl h) ?_; rintro r32 _ ⟨rfl, rfl⟩
    refine DL.pure (i := 4) (by kernel_rfl) (by kernel_rfl) rfl rfl rfl (OpP.eqBytes rfl rfl (by first | assumption | exact Go.Proofs.B.shaB_length _ _ | solve_by_elim) (by first | assumption | exact Go.Proofs.B.shaB_length _ _ | solve_by_elim)) ?_
    refine DL.pure (i := 5) (by kernel_rfl) (by kernel_rfl) rfl rfl rfl (OpP.move rfl) ?_
    refine DL.decAt 34 rfl (fun h34 => ?_) (fun h34 => ?_)
    focus
      refine DL.pure (i := 6) (by kernel_rfl) (by kernel_rfl) rfl rfl rfl (OpP.fieldAddr rfl) ?_
      refine DL.read (i := 7) (by kernel_rfl) (by kernel_rfl) rfl rfl rfl (fun _ h => h) (OpR.load1 rfl (Cell.hd1 (.tail .head) (by first | assumption | exact Go.Proofs.B.shaB_length _ _ | solve_by_elim))) ?_
      refine DL.pure (i := 8) (by kernel_rfl) (by kernel_rfl) rfl rfl rfl (OpP.move rfl) ?_
      refine DL.pure (i := 9) (by kernel_rfl) (by kernel_rfl) rfl rfl rfl (OpP.len rfl rfl) ?_
      refine DL.decT (i := 10) (by kernel_rfl) (by kernel_rfl) rfl rfl rfl (OpP.eql rfl rfl) (by omega) ?_
      refine DL.pure (i := 11) (by kernel_rfl) (by kernel_rfl) rfl rfl rfl (OpP.pickT rfl rfl) ?_
      refine DL.pure (i := 12) (by kernel_rfl) (by kernel_rfl) rfl rfl rfl (OpP.move rfl) ?_
      refine DL.read (i := 13) (by kernel_rfl) (by kernel_rfl) rfl rfl rfl (fun _ h => h) (OpR.loadN rfl (Cells.full (.tail .head)) (hdC_len (by first | assumption | exact Go.Proofs.B.shaB_length _ _ | solve_by_elim))) ?_
      refine DL.read (i := 14) (by kernel_rfl) (by kernel_rfl) rfl rfl rfl (fun _ h => h) (OpR.loadN rfl (Cells.full .head) (hdC_len (by first | assumption | exact Go.Proofs.B.shaB_length _ _ | solve_by_elim))) ?_
      refine DL.pure (i := 15) (by kernel_rfl) (by kernel_rfl) rfl rfl rfl (OpP.eqHead rfl rfl (by first | assumption | exact Go.Proofs.B.shaB_length _ _ | solve_by_elim) (by first | assumption | exact Go.Proofs.B.shaB_length _ _ | solve_by_elim) (by first | assumption | (simp [Lit.wf, IntKind.min, IntKind.max, IntKind.signed, IntKind.bits] <;> omega)) (by first | assumption | (simp [Lit.wf, IntKind.min, IntKind.max, IntKind.signed, IntKind.bits] <;> omega))) ?_
      refine DL.pure (i := 16) (by kernel_rfl) (by kernel_rfl) rfl rfl rfl (OpP.pickT rfl rfl) ?_
      refine DL.pure (i := 17) (by kernel_rfl) (by kernel_rfl) rfl rfl rfl (OpP.move rfl) ?_
      refine DL.decAt 46 rfl (fun h46 => ?_) (fun h46 => ?_)
      focus
        refine DL.read (i := 18) (by kernel_rfl) (by kernel_rfl) rfl rfl rfl (fun _ h => h) (OpR.loadN rfl (Cells.full (.tail .head)) (hdC_len (by first | assumption | exact Go.Proofs.B.shaB_length _ _ | solve_by_elim))) ?_
        refine DL.pure (i := 19) (by kernel_rfl) (by kernel_rfl) rfl rfl rfl (OpP.move rfl) ?_
        refine DL.only (i := 20) (by kernel_rfl) ?_
        refine DL1.stepF rfl rfl rfl (by kernel_rfl) (by exact OpW.call (first := []) (captured := []) inferInstance rfl rfl (Check_ok hK (by assumption) (by assumption) hrl hpl (hp.conv (fun _ h => h.none)))) ?_; rintro r49 _ ⟨rfl, rfl⟩
        refine DL.pure (i := 21) (by kernel_rfl) (by kernel_rfl) rfl rfl rfl (OpP.pickT rfl rfl) ?_
        refine DL.pure (i := 22) (by kernel_rfl) (by kernel_rfl) rfl rfl rfl (OpP.assign rfl) ?_
        refine DL.done (by kernel_rfl) ?_
        refine J.ret1 rfl rfl ?_
      rotate_left 1
      focus
        refine DL.skip (i := 18) (by kernel_rfl) (by kernel_rfl) rfl rfl rfl ?_
        refine DL.skip (i := 19) (by kernel_rfl) (by kernel_rfl) rfl rfl rfl ?_
        refine DL.skip (i := 20) (by kernel_rfl) (by kernel_rfl) rfl rfl rfl ?_
        refine DL.pure (i := 21) (by kernel_rfl) (by kernel_rfl) rfl rfl rfl (OpP.pickF rfl rfl) ?_
        refine DL.pure (i := 22) (by kernel_rfl) (by kernel_rfl) rfl rfl rfl (OpP.assign rfl) ?_
        refine DL.done (by kernel_rfl) ?_
        refine J.ret1 rfl rfl ?_
      rotate_left 1
    rotate_left 2
    focus
      refine DL.skip (i := 6) (by kernel_rfl) (by kernel_rfl) rfl rfl rfl ?_
      refine DL.skip (i := 7) (by kernel_rfl) (by kernel_rfl) rfl rfl rfl ?_
      refine DL.skip (i := 8) (by kernel_rfl) (by kernel_rfl) rfl rfl rfl ?_
      refine DL.skip (i := 9) (by kernel_rfl) (by kernel_rfl) rfl rfl rfl ?_
      refine DL.skip (i := 10) (by kernel_rfl) (by kernel_rfl) rfl rfl rfl ?_
      refine DL.pure (i := 11) (by kernel_rfl) (by kernel_rfl) rfl rfl rfl (OpP.pickF rfl rfl) ?_
      refine DL.pure (i := 12) (by kernel_rfl) (by kernel_rfl) rfl rfl rfl (OpP.move rfl) ?_
      refine DL.skip (i := 13) (by kernel_rfl) (by kernel_rfl) rfl rfl rfl ?_
      refine DL.skip (i := 14) (by kernel_rfl) (by kernel_rfl) rfl rfl rfl ?_
      refine DL.skip (i := 15) (by kernel_rfl) (by kernel_rfl) rfl rfl rfl ?_
      refine DL.pure (i := 16) (by kernel_rfl) (by kernel_rfl) rfl rfl rfl (OpP.pickF rfl rfl) ?_
      refine DL.pure (i := 17) (by kernel_rfl) (by kernel_rfl) rfl rfl rfl (OpP.move rfl) ?_
      refine DL.skip (i := 18) (by kernel_rfl) (by kernel_rfl) rfl rfl rfl ?_
      refine DL.skip (i := 19) (by kernel_rfl) (by kernel_rfl) rfl rfl rfl ?_
      refine DL.skip (i := 20) (by kernel_rfl) (by kernel_rfl) rfl rfl rfl ?_
      refine DL.pure (i := 21) (by kernel_rfl) (by kernel_rfl) rfl rfl rfl (OpP.pickF rfl rfl) ?_
      refine DL.pure (i := 22) (by kernel_rfl) (by kernel_rfl) rfl rfl rfl (OpP.assign rfl) ?_
      refine DL.done (by kernel_rfl) ?_
      refine J.ret1 rfl rfl ?_
    rotate_left 1
    all_goals first
      | exact congrArg Value.bool (decide_eq_true ⟨rfl, rfl⟩)
      | exact absurd rfl h34
      | exact absurd rfl h33
      | exact absurd ⟨rfl, rfl⟩ h45
      | exact absurd ⟨rfl, rfl⟩ h46
      | exact absurd ⟨rfl, rfl⟩ h41
theorem ChainChecks_ok {w0 : World} {h : List UInt8} {n : Int} {v : Value} {ps : List (Value × List UInt8)} {x y : Bool} {K : Ws} (hA : IsAwake w0 25) (hK : Tab w0 0 64 fun j => w32 (K j)) (hK2 : ∀ i, i < 64 → hexOk constS i (K i) = true) (hl : h.length = 32) (hwn : (Lit.int .i64 n).wf = true) (hpl : ps.length ≤ 9223372036854775807) (hp : Parts w0 [] v ps) :
    FnO Tryd.prog w0 9 [.agg (hdC h n).toArray, v, .agg [.bool x, .bool y].toArray] [] (fun v _ => v = .bool true) := by
  refine FnO.rdF (fun _ h => h) hp.rd fun hp0 => ?_
  obtain ⟨va, vc, rfl⟩ := hp0.lit
  refine FnO.intro (n := 41) Tryd.func9 rfl rfl rfl ?_
  refine J.seq ?_
  refine J.region ?_
  refine JL.mem rfl rfl (OpM.box rfl rfl) ?_; rintro _ _ ⟨b3, rfl, rfl⟩
  refine JL.mem rfl rfl (OpM.box rfl rfl) ?_; rintro _ _ ⟨b5, rfl, rfl⟩
  refine JL.pure rfl rfl (OpP.assign rfl) ?_
  refine JL.nil ?_
  refine J.seq ?_
  refine J.seq ?_
  refine J.region ?_
  refine JL.step rfl rfl (OpW.call (first := []) (captured := []) inferInstance rfl rfl (hA _)) ?_; rintro r7 _ ⟨rfl, rfl⟩
  refine JL.pure rfl rfl (OpP.notB rfl) ?_
  refine JL.pure rfl rfl (OpP.move rfl) ?_
  refine JL.pure rfl rfl (OpP.move rfl) ?_
  refine JL.step rfl rfl (OpW.call (first := []) (captured := []) inferInstance rfl rfl (Few5_ok (m := 20) (most := 600) (by omega) (by omega) hpl (hp.conv (fun _ h => h.none)))) ?_; rintro r11 _ ⟨b, ⟨rfl, ⟨rfl, h11⟩⟩⟩
  refine JL.pure rfl rfl (OpP.notB rfl) ?_
  refine JL.pure rfl rfl (OpP.pickF rfl rfl) ?_
  refine JL.nil ?_
  refine J.splitAt 13 rfl (fun h13 => ?_) (fun h13 => ?_)
  focus
    refine J.condT rfl ?_
    refine J.seq ?_
    refine J.region ?_
    refine JL.step rfl rfl (OpW.call (first := []) (captured := []) inferInstance rfl rfl (hA _)) ?_; rintro r14 _ ⟨rfl, rfl⟩
    refine JL.pure rfl rfl (OpP.assign rfl) ?_
    refine JL.nil ?_
    refine J.ret1 rfl rfl ?_
  rotate_left 1
  focus
    refine J.condF rfl ?_
    refine J.skip ?_
    refine J.seq ?_
  rotate_left 1
  · rfl
  obtain ⟨hn, hm⟩ := h11 (by cases b <;> first | rfl | cases h13)
  have hrl : ∀ p ∈ ps, p.2.length ≤ 80000 := fun p hp => by have := recs_le p hp; omega
  have hl0 : h0.length = 32 := by simp [h0]
  have hhl := hsh_len (K := K) hl0 (recs ps)
  have hw : (Lit.int .i64 ((ps.length : Nat) : Int)).wf = true := by simp [Lit.wf, IntKind.min, IntKind.max, IntKind.signed, IntKind.bits]; omega
  refine J.seq ?_
  refine J.region ?_
  refine JL.pure rfl rfl (OpP.indexAddrF rfl rfl (by omega) (by omega)) ?_
  refine JL.read rfl rfl (OpR.load1 rfl (Cell.row .head rfl)) ?_
  refine JL.nil ?_
  refine J.splitAt 16 rfl (fun h16 => ?_) (fun h16 => ?_)
  focus
    refine J.condT rfl ?_
    refine J.region ?_
    refine JL.pure rfl rfl (OpP.move rfl) ?_
    refine JL.step rfl rfl (OpW.call (first := []) (captured := []) inferInstance rfl rfl (Hash_ok hK2 hrl hpl (hp.conv (fun _ h => h.none)))) ?_; rintro r18 _ ⟨rfl, rfl⟩
    refine JL.pure rfl rfl (OpP.fieldAddr rfl) ?_
    refine JL.mem0 rfl (by apply OpM.storeN rfl rfl (by rw [bcells_length]; exact (by first | assumption | exact Go.Proofs.B.shaB_length _ _ | solve_by_elim)) (bcells_one _); (case' hu => exact (.tail .head)); (case' hs => exact spl_hd0 (by first | assumption | exact Go.Proofs.B.shaB_length _ _ | solve_by_elim) (by first | assumption | exact Go.Proofs.B.shaB_length _ _ | solve_by_elim)); done) ?_; rintro _ _ ⟨rfl, rfl⟩
    refine JL.nil ?_
    refine J.seq ?_
    refine J.seq ?_
    refine J.region ?_
    refine JL.pure rfl rfl (OpP.indexAddrF rfl rfl (by omega) (by omega)) ?_
    refine JL.read rfl rfl (OpR.load1 rfl (Cell.row .head rfl)) ?_
    refine JL.nil ?_
    refine J.splitAt 21 rfl (fun h21 => ?_) (fun h21 => ?_)
    focus
      refine J.condT rfl ?_
      refine J.region ?_
      refine JL.pure rfl rfl (OpP.move rfl) ?_
      refine JL.pure rfl rfl (OpP.len rfl rfl) ?_
      refine JL.pure rfl rfl (OpP.fieldAddr rfl) ?_
      refine JL.mem0 rfl (by apply OpM.store1 rfl rfl rfl; (case' hu => exact (.tail .head)); (case' hs => exact spl_hd1 (by first | assumption | exact Go.Proofs.B.shaB_length _ _ | solve_by_elim)); done) ?_; rintro _ _ ⟨rfl, rfl⟩
      refine JL.nil ?_
    rotate_left 1
    focus
      refine J.condF rfl ?_
      refine J.skip ?_
    rotate_left 1
  rotate_left 2
  focus
    refine J.condF rfl ?_
    refine J.skip ?_
    refine J.seq ?_
    refine J.seq ?_
    refine J.region ?_
    refine JL.pure rfl rfl (OpP.indexAddrF rfl rfl (by omega) (by omega)) ?_
    refine JL.read rfl rfl (OpR.load1 rfl (Cell.row .head rfl)) ?_
    refine JL.nil ?_
    refine J.splitAt 21 rfl (fun h21 => ?_) (fun h21 => ?_)
    focus
      refine J.condT rfl ?_
      refine J.region ?_
      refine JL.pure rfl rfl (OpP.move rfl) ?_
      refine JL.pure rfl rfl (OpP.len rfl rfl) ?_
      refine JL.pure rfl rfl (OpP.fieldAddr rfl) ?_
      refine JL.mem0 rfl (by apply OpM.store1 rfl rfl rfl; (case' hu => exact (.tail .head)); (case' hs => exact spl_hd1 (by first | assumption | exact Go.Proofs.B.shaB_length _ _ | solve_by_elim)); done) ?_; rintro _ _ ⟨rfl, rfl⟩
      refine JL.nil ?_
    rotate_left 1
    focus
      refine J.condF rfl ?_
      refine J.skip ?_
    rotate_left 1
  rotate_left 2
  · refine J.seq ?_
    refine J.regionD [0, 4, 10] (by kernel_rfl) ?_
    refine DL.read (i := 0) (by kernel_rfl) (by kernel_rfl) rfl rfl rfl (fun _ h => h) (OpR.loadN rfl (Cells.full (.tail .head)) (hdC_len (by first | assumption | exact Go.Proofs.B.shaB_length _ _ | solve_by_elim))) ?_
    refine DL.pure (i := 1) (by kernel_rfl) (by kernel_rfl) rfl rfl rfl (OpP.move rfl) ?_
    refine DL.pure (i := 3) (by kernel_rfl) (by kernel_rfl) rfl rfl rfl (OpP.fieldAddr rfl) ?_
    refine DL.read (i := 4) (by kernel_rfl) (by kernel_rfl) rfl rfl rfl (fun _ h => h) (OpR.load1 rfl (Cell.hd1 (.tail .head) (by first | assumption | exact Go.Proofs.B.shaB_length _ _ | solve_by_elim))) ?_
    refine DL.pure (i := 5) (by kernel_rfl) (by kernel_rfl) rfl rfl rfl (OpP.move rfl) ?_
    refine DL.pure (i := 6) (by kernel_rfl) (by kernel_rfl) rfl rfl rfl (OpP.len rfl rfl) ?_
    refine DL.decT (i := 7) (by kernel_rfl) (by kernel_rfl) rfl rfl rfl (OpP.eql rfl rfl) (by omega) ?_
    refine DL.only (i := 2) (by kernel_rfl) ?_
    refine DL1.stepK rfl rfl rfl (by exact OpW.call (first := []) (captured := []) inferInstance rfl rfl (Check_ok hK (by assumption) (by assumption) hrl hpl (hp.conv (fun _ h => h.none)))) (by rintro _ _ ⟨rfl, rfl⟩ _ h; exact Own.pick (pre := [_, _]) [0, 1] rfl h) ?_; rintro r27 _ ⟨rfl, rfl⟩
    refine DL.pure (i := 8) (by kernel_rfl) (by kernel_rfl) rfl rfl rfl (OpP.move rfl) ?_
    refine DL.pure (i := 9) (by kernel_rfl) (by kernel_rfl) rfl rfl rfl (OpP.fieldAddr rfl) ?_
    refine DL.read (i := 10) (by kernel_rfl) (by kernel_rfl) rfl rfl rfl (fun _ h => h) (OpR.loadN rfl (Cells.hd0 (.tail .head) (by first | assumption | exact Go.Proofs.B.shaB_length _ _ | solve_by_elim)) (by rw [bcells_length]; exact (by first | assumption | exact Go.Proofs.B.shaB_length _ _ | solve_by_elim))) ?_
    refine DL.pure (i := 11) (by kernel_rfl) (by kernel_rfl) rfl rfl rfl (OpP.move rfl) ?_
    refine DL.only (i := 12) (by kernel_rfl) ?_
    refine DL1.stepK rfl rfl rfl (by exact OpW.call (first := []) (captured := []) inferInstance rfl rfl (Hash_ok hK2 hrl hpl (hp.conv (fun _ h => h.none)))) (by rintro _ _ ⟨rfl, rfl⟩ _ h; exact Own.pick (pre := [_, _]) [0, 1] rfl h) ?_; rintro r37 _ ⟨rfl, rfl⟩
    refine DL.pure (i := 13) (by kernel_rfl) (by kernel_rfl) rfl rfl rfl (OpP.eqBytes rfl rfl (by first | assumption | exact Go.Proofs.B.shaB_length _ _ | solve_by_elim) (by first | assumption | exact Go.Proofs.B.shaB_length _ _ | solve_by_elim)) ?_
    refine DL.pure (i := 14) (by kernel_rfl) (by kernel_rfl) rfl rfl rfl (OpP.pickT rfl rfl) ?_
    refine DL.dec (i := 15) (by kernel_rfl) (by kernel_rfl) rfl rfl rfl (OpP.eqBool rfl rfl) (fun h40 => ?_) (fun h40 => ?_)
    focus
      refine DL.pure (i := 16) (by kernel_rfl) (by kernel_rfl) rfl rfl rfl (OpP.assign rfl) ?_
      refine DL.done (by kernel_rfl) ?_
      refine J.ret1 rfl rfl ?_
    rotate_left 1
    focus
      refine DL.pure (i := 16) (by kernel_rfl) (by kernel_rfl) rfl rfl rfl (OpP.assign rfl) ?_
      refine DL.done (by kernel_rfl) ?_
      refine J.ret1 rfl rfl ?_
    rotate_left 1
    all_goals first
      | rfl
      | (refine absurd ?_ h40; first | rfl | (simp; done) | (simp [*]; done) | (simp [*, eq_comm]; done) | (simp [eq_comm (a := h), *]; done) | (rw [decide_eq_decide]; constructor <;> intro q <;> simp_all; done))
  · refine J.seq ?_
    refine J.regionD [0, 4, 10] (by kernel_rfl) ?_
    refine DL.read (i := 0) (by kernel_rfl) (by kernel_rfl) rfl rfl rfl (fun _ h => h) (OpR.loadN rfl (Cells.full (.tail .head)) (hdC_len (by first | assumption | exact Go.Proofs.B.shaB_length _ _ | solve_by_elim))) ?_
    refine DL.pure (i := 1) (by kernel_rfl) (by kernel_rfl) rfl rfl rfl (OpP.move rfl) ?_
    refine DL.pure (i := 3) (by kernel_rfl) (by kernel_rfl) rfl rfl rfl (OpP.fieldAddr rfl) ?_
    refine DL.read (i := 4) (by kernel_rfl) (by kernel_rfl) rfl rfl rfl (fun _ h => h) (OpR.load1 rfl (Cell.hd1 (.tail .head) (by first | assumption | exact Go.Proofs.B.shaB_length _ _ | solve_by_elim))) ?_
    refine DL.pure (i := 5) (by kernel_rfl) (by kernel_rfl) rfl rfl rfl (OpP.move rfl) ?_
    refine DL.pure (i := 6) (by kernel_rfl) (by kernel_rfl) rfl rfl rfl (OpP.len rfl rfl) ?_
    refine DL.dec (i := 7) (by kernel_rfl) (by kernel_rfl) rfl rfl rfl (OpP.eql rfl rfl) (fun h32 => ?_) (fun h32 => ?_)
    focus
      refine DL.only (i := 2) (by kernel_rfl) ?_
      refine DL1.stepK rfl rfl rfl (by exact OpW.call (first := []) (captured := []) inferInstance rfl rfl (Check_ok hK (by assumption) (by assumption) hrl hpl (hp.conv (fun _ h => h.none)))) (by rintro _ _ ⟨rfl, rfl⟩ _ h; exact Own.pick (pre := [_, _]) [0, 1] rfl h) ?_; rintro r27 _ ⟨rfl, rfl⟩
      refine DL.pure (i := 8) (by kernel_rfl) (by kernel_rfl) rfl rfl rfl (OpP.move rfl) ?_
      refine DL.pure (i := 9) (by kernel_rfl) (by kernel_rfl) rfl rfl rfl (OpP.fieldAddr rfl) ?_
      refine DL.read (i := 10) (by kernel_rfl) (by kernel_rfl) rfl rfl rfl (fun _ h => h) (OpR.loadN rfl (Cells.hd0 (.tail .head) (by first | assumption | exact Go.Proofs.B.shaB_length _ _ | solve_by_elim)) (by rw [bcells_length]; exact (by first | assumption | exact Go.Proofs.B.shaB_length _ _ | solve_by_elim))) ?_
      refine DL.pure (i := 11) (by kernel_rfl) (by kernel_rfl) rfl rfl rfl (OpP.move rfl) ?_
      refine DL.only (i := 12) (by kernel_rfl) ?_
      refine DL1.stepK rfl rfl rfl (by exact OpW.call (first := []) (captured := []) inferInstance rfl rfl (Hash_ok hK2 hrl hpl (hp.conv (fun _ h => h.none)))) (by rintro _ _ ⟨rfl, rfl⟩ _ h; exact Own.pick (pre := [_, _]) [0, 1] rfl h) ?_; rintro r37 _ ⟨rfl, rfl⟩
      refine DL.pure (i := 13) (by kernel_rfl) (by kernel_rfl) rfl rfl rfl (OpP.eqBytes rfl rfl (by first | assumption | exact Go.Proofs.B.shaB_length _ _ | solve_by_elim) (by first | assumption | exact Go.Proofs.B.shaB_length _ _ | solve_by_elim)) ?_
      refine DL.pure (i := 14) (by kernel_rfl) (by kernel_rfl) rfl rfl rfl (OpP.pickT rfl rfl) ?_
      refine DL.dec (i := 15) (by kernel_rfl) (by kernel_rfl) rfl rfl rfl (OpP.eqBool rfl rfl) (fun h40 => ?_) (fun h40 => ?_)
      focus
        refine DL.pure (i := 16) (by kernel_rfl) (by kernel_rfl) rfl rfl rfl (OpP.assign rfl) ?_
        refine DL.done (by kernel_rfl) ?_
        refine J.ret1 rfl rfl ?_
      rotate_left 1
      focus
        refine DL.pure (i := 16) (by kernel_rfl) (by kernel_rfl) rfl rfl rfl (OpP.assign rfl) ?_
        refine DL.done (by kernel_rfl) ?_
        refine J.ret1 rfl rfl ?_
      rotate_left 1
    rotate_left 2
    focus
      refine DL.only (i := 2) (by kernel_rfl) ?_
      refine DL1.stepK rfl rfl rfl (by exact OpW.call (first := []) (captured := []) inferInstance rfl rfl (Check_ok hK (by assumption) (by assumption) hrl hpl (hp.conv (fun _ h => h.none)))) (by rintro _ _ ⟨rfl, rfl⟩ _ h; exact Own.pick (pre := [_, _]) [0, 1] rfl h) ?_; rintro r27 _ ⟨rfl, rfl⟩
      refine DL.pure (i := 8) (by kernel_rfl) (by kernel_rfl) rfl rfl rfl (OpP.move rfl) ?_
      refine DL.skip (i := 9) (by kernel_rfl) (by kernel_rfl) rfl rfl rfl ?_
      refine DL.skip (i := 10) (by kernel_rfl) (by kernel_rfl) rfl rfl rfl ?_
      refine DL.skip (i := 11) (by kernel_rfl) (by kernel_rfl) rfl rfl rfl ?_
      refine DL.skip (i := 12) (by kernel_rfl) (by kernel_rfl) rfl rfl rfl ?_
      refine DL.skip (i := 13) (by kernel_rfl) (by kernel_rfl) rfl rfl rfl ?_
      refine DL.pure (i := 14) (by kernel_rfl) (by kernel_rfl) rfl rfl rfl (OpP.pickF rfl rfl) ?_
      refine DL.dec (i := 15) (by kernel_rfl) (by kernel_rfl) rfl rfl rfl (OpP.eqBool rfl rfl) (fun h40 => ?_) (fun h40 => ?_)
      focus
        refine DL.pure (i := 16) (by kernel_rfl) (by kernel_rfl) rfl rfl rfl (OpP.assign rfl) ?_
        refine DL.done (by kernel_rfl) ?_
        refine J.ret1 rfl rfl ?_
      rotate_left 1
      focus
        refine DL.pure (i := 16) (by kernel_rfl) (by kernel_rfl) rfl rfl rfl (OpP.assign rfl) ?_
        refine DL.done (by kernel_rfl) ?_
        refine J.ret1 rfl rfl ?_
      rotate_left 1
    rotate_left 2
    all_goals first
      | rfl
      | (refine absurd ?_ h40; first | rfl | (simp; done) | (simp [*]; done) | (simp [*, eq_comm]; done) | (simp [eq_comm (a := h), *]; done) | (rw [decide_eq_decide]; constructor <;> intro q <;> simp_all; done))
  · refine J.seq ?_
    refine J.regionD [0, 4, 10] (by kernel_rfl) ?_
    refine DL.read (i := 0) (by kernel_rfl) (by kernel_rfl) rfl rfl rfl (fun _ h => h) (OpR.loadN rfl (Cells.full (.tail .head)) (hdC_len (by first | assumption | exact Go.Proofs.B.shaB_length _ _ | solve_by_elim))) ?_
    refine DL.pure (i := 1) (by kernel_rfl) (by kernel_rfl) rfl rfl rfl (OpP.move rfl) ?_
    refine DL.pure (i := 3) (by kernel_rfl) (by kernel_rfl) rfl rfl rfl (OpP.fieldAddr rfl) ?_
    refine DL.read (i := 4) (by kernel_rfl) (by kernel_rfl) rfl rfl rfl (fun _ h => h) (OpR.load1 rfl (Cell.hd1 (.tail .head) (by first | assumption | exact Go.Proofs.B.shaB_length _ _ | solve_by_elim))) ?_
    refine DL.pure (i := 5) (by kernel_rfl) (by kernel_rfl) rfl rfl rfl (OpP.move rfl) ?_
    refine DL.pure (i := 6) (by kernel_rfl) (by kernel_rfl) rfl rfl rfl (OpP.len rfl rfl) ?_
    refine DL.decT (i := 7) (by kernel_rfl) (by kernel_rfl) rfl rfl rfl (OpP.eql rfl rfl) (by omega) ?_
    refine DL.only (i := 2) (by kernel_rfl) ?_
    refine DL1.stepK rfl rfl rfl (by exact OpW.call (first := []) (captured := []) inferInstance rfl rfl (Check_ok hK (by assumption) (by assumption) hrl hpl (hp.conv (fun _ h => h.none)))) (by rintro _ _ ⟨rfl, rfl⟩ _ h; exact Own.pick (pre := [_, _]) [0, 1] rfl h) ?_; rintro r27 _ ⟨rfl, rfl⟩
    refine DL.pure (i := 8) (by kernel_rfl) (by kernel_rfl) rfl rfl rfl (OpP.move rfl) ?_
    refine DL.pure (i := 9) (by kernel_rfl) (by kernel_rfl) rfl rfl rfl (OpP.fieldAddr rfl) ?_
    refine DL.read (i := 10) (by kernel_rfl) (by kernel_rfl) rfl rfl rfl (fun _ h => h) (OpR.loadN rfl (Cells.hd0 (.tail .head) (by first | assumption | exact Go.Proofs.B.shaB_length _ _ | solve_by_elim)) (by rw [bcells_length]; exact (by first | assumption | exact Go.Proofs.B.shaB_length _ _ | solve_by_elim))) ?_
    refine DL.pure (i := 11) (by kernel_rfl) (by kernel_rfl) rfl rfl rfl (OpP.move rfl) ?_
    refine DL.only (i := 12) (by kernel_rfl) ?_
    refine DL1.stepK rfl rfl rfl (by exact OpW.call (first := []) (captured := []) inferInstance rfl rfl (Hash_ok hK2 hrl hpl (hp.conv (fun _ h => h.none)))) (by rintro _ _ ⟨rfl, rfl⟩ _ h; exact Own.pick (pre := [_, _]) [0, 1] rfl h) ?_; rintro r37 _ ⟨rfl, rfl⟩
    refine DL.pure (i := 13) (by kernel_rfl) (by kernel_rfl) rfl rfl rfl (OpP.eqBytes rfl rfl (by first | assumption | exact Go.Proofs.B.shaB_length _ _ | solve_by_elim) (by first | assumption | exact Go.Proofs.B.shaB_length _ _ | solve_by_elim)) ?_
    refine DL.pure (i := 14) (by kernel_rfl) (by kernel_rfl) rfl rfl rfl (OpP.pickT rfl rfl) ?_
    refine DL.dec (i := 15) (by kernel_rfl) (by kernel_rfl) rfl rfl rfl (OpP.eqBool rfl rfl) (fun h40 => ?_) (fun h40 => ?_)
    focus
      refine DL.pure (i := 16) (by kernel_rfl) (by kernel_rfl) rfl rfl rfl (OpP.assign rfl) ?_
      refine DL.done (by kernel_rfl) ?_
      refine J.ret1 rfl rfl ?_
    rotate_left 1
    focus
      refine DL.pure (i := 16) (by kernel_rfl) (by kernel_rfl) rfl rfl rfl (OpP.assign rfl) ?_
      refine DL.done (by kernel_rfl) ?_
      refine J.ret1 rfl rfl ?_
    rotate_left 1
    all_goals first
      | rfl
      | (refine absurd ?_ h40; first | rfl | (simp; done) | (simp [*]; done) | (simp [*, eq_comm]; done) | (simp [eq_comm (a := h), *]; done) | (rw [decide_eq_decide]; constructor <;> intro q <;> simp_all; done))
  · refine J.seq ?_
    refine J.regionD [0, 4, 10] (by kernel_rfl) ?_
    refine DL.read (i := 0) (by kernel_rfl) (by kernel_rfl) rfl rfl rfl (fun _ h => h) (OpR.loadN rfl (Cells.full (.tail .head)) (hdC_len (by first | assumption | exact Go.Proofs.B.shaB_length _ _ | solve_by_elim))) ?_
    refine DL.pure (i := 1) (by kernel_rfl) (by kernel_rfl) rfl rfl rfl (OpP.move rfl) ?_
    refine DL.pure (i := 3) (by kernel_rfl) (by kernel_rfl) rfl rfl rfl (OpP.fieldAddr rfl) ?_
    refine DL.read (i := 4) (by kernel_rfl) (by kernel_rfl) rfl rfl rfl (fun _ h => h) (OpR.load1 rfl (Cell.hd1 (.tail .head) (by first | assumption | exact Go.Proofs.B.shaB_length _ _ | solve_by_elim))) ?_
    refine DL.pure (i := 5) (by kernel_rfl) (by kernel_rfl) rfl rfl rfl (OpP.move rfl) ?_
    refine DL.pure (i := 6) (by kernel_rfl) (by kernel_rfl) rfl rfl rfl (OpP.len rfl rfl) ?_
    refine DL.dec (i := 7) (by kernel_rfl) (by kernel_rfl) rfl rfl rfl (OpP.eql rfl rfl) (fun h32 => ?_) (fun h32 => ?_)
    focus
      refine DL.only (i := 2) (by kernel_rfl) ?_
      refine DL1.stepK rfl rfl rfl (by exact OpW.call (first := []) (captured := []) inferInstance rfl rfl (Check_ok hK (by assumption) (by assumption) hrl hpl (hp.conv (fun _ h => h.none)))) (by rintro _ _ ⟨rfl, rfl⟩ _ h; exact Own.pick (pre := [_, _]) [0, 1] rfl h) ?_; rintro r27 _ ⟨rfl, rfl⟩
      refine DL.pure (i := 8) (by kernel_rfl) (by kernel_rfl) rfl rfl rfl (OpP.move rfl) ?_
      refine DL.pure (i := 9) (by kernel_rfl) (by kernel_rfl) rfl rfl rfl (OpP.fieldAddr rfl) ?_
      refine DL.read (i := 10) (by kernel_rfl) (by kernel_rfl) rfl rfl rfl (fun _ h => h) (OpR.loadN rfl (Cells.hd0 (.tail .head) (by first | assumption | exact Go.Proofs.B.shaB_length _ _ | solve_by_elim)) (by rw [bcells_length]; exact (by first | assumption | exact Go.Proofs.B.shaB_length _ _ | solve_by_elim))) ?_
      refine DL.pure (i := 11) (by kernel_rfl) (by kernel_rfl) rfl rfl rfl (OpP.move rfl) ?_
      refine DL.only (i := 12) (by kernel_rfl) ?_
      refine DL1.stepK rfl rfl rfl (by exact OpW.call (first := []) (captured := []) inferInstance rfl rfl (Hash_ok hK2 hrl hpl (hp.conv (fun _ h => h.none)))) (by rintro _ _ ⟨rfl, rfl⟩ _ h; exact Own.pick (pre := [_, _]) [0, 1] rfl h) ?_; rintro r37 _ ⟨rfl, rfl⟩
      refine DL.pure (i := 13) (by kernel_rfl) (by kernel_rfl) rfl rfl rfl (OpP.eqBytes rfl rfl (by first | assumption | exact Go.Proofs.B.shaB_length _ _ | solve_by_elim) (by first | assumption | exact Go.Proofs.B.shaB_length _ _ | solve_by_elim)) ?_
      refine DL.pure (i := 14) (by kernel_rfl) (by kernel_rfl) rfl rfl rfl (OpP.pickT rfl rfl) ?_
      refine DL.dec (i := 15) (by kernel_rfl) (by kernel_rfl) rfl rfl rfl (OpP.eqBool rfl rfl) (fun h40 => ?_) (fun h40 => ?_)
      focus
        refine DL.pure (i := 16) (by kernel_rfl) (by kernel_rfl) rfl rfl rfl (OpP.assign rfl) ?_
        refine DL.done (by kernel_rfl) ?_
        refine J.ret1 rfl rfl ?_
      rotate_left 1
      focus
        refine DL.pure (i := 16) (by kernel_rfl) (by kernel_rfl) rfl rfl rfl (OpP.assign rfl) ?_
        refine DL.done (by kernel_rfl) ?_
        refine J.ret1 rfl rfl ?_
      rotate_left 1
    rotate_left 2
    focus
      refine DL.only (i := 2) (by kernel_rfl) ?_
      refine DL1.stepK rfl rfl rfl (by exact OpW.call (first := []) (captured := []) inferInstance rfl rfl (Check_ok hK (by assumption) (by assumption) hrl hpl (hp.conv (fun _ h => h.none)))) (by rintro _ _ ⟨rfl, rfl⟩ _ h; exact Own.pick (pre := [_, _]) [0, 1] rfl h) ?_; rintro r27 _ ⟨rfl, rfl⟩
      refine DL.pure (i := 8) (by kernel_rfl) (by kernel_rfl) rfl rfl rfl (OpP.move rfl) ?_
      refine DL.skip (i := 9) (by kernel_rfl) (by kernel_rfl) rfl rfl rfl ?_
      refine DL.skip (i := 10) (by kernel_rfl) (by kernel_rfl) rfl rfl rfl ?_
      refine DL.skip (i := 11) (by kernel_rfl) (by kernel_rfl) rfl rfl rfl ?_
      refine DL.skip (i := 12) (by kernel_rfl) (by kernel_rfl) rfl rfl rfl ?_
      refine DL.skip (i := 13) (by kernel_rfl) (by kernel_rfl) rfl rfl rfl ?_
      refine DL.pure (i := 14) (by kernel_rfl) (by kernel_rfl) rfl rfl rfl (OpP.pickF rfl rfl) ?_
      refine DL.dec (i := 15) (by kernel_rfl) (by kernel_rfl) rfl rfl rfl (OpP.eqBool rfl rfl) (fun h40 => ?_) (fun h40 => ?_)
      focus
        refine DL.pure (i := 16) (by kernel_rfl) (by kernel_rfl) rfl rfl rfl (OpP.assign rfl) ?_
        refine DL.done (by kernel_rfl) ?_
        refine J.ret1 rfl rfl ?_
      rotate_left 1
      focus
        refine DL.pure (i := 16) (by kernel_rfl) (by kernel_rfl) rfl rfl rfl (OpP.assign rfl) ?_
        refine DL.done (by kernel_rfl) ?_
        refine J.ret1 rfl rfl ?_
      rotate_left 1
    rotate_left 2
    all_goals first
      | rfl
      | (refine absurd ?_ h40; first | rfl | (simp; done) | (simp [*]; done) | (simp [*, eq_comm]; done) | (simp [eq_comm (a := h), *]; done) | (rw [decide_eq_decide]; constructor <;> intro q <;> simp_all; done))
end Go.Proofs.B
