/- A text of the proof of a statement about the given program: its part CComb6. No person has read it. -/
import Derived.Test.YtaodplndajeckaaCComb5
import Derived.Test.YtaodplndajeckaaJ20
-- seat c
namespace Go.Proofs.C
open Go Go.Gp Go.RowKit

theorem ans_valid {l : List UInt8} : ∀ x ∈ ans l, 0 ≤ x ∧ x ≤ 5 := by
  intro x hx
  obtain ⟨c, _, rfl⟩ := List.mem_map.1 hx
  omega
theorem valid_right {l : List Int} (h : ∀ x ∈ l, 0 ≤ x ∧ x ≤ 5) : wrongB l = false := by
  cases q : wrongB l with
  | false => rfl
  | true => obtain ⟨x, hx, h5⟩ := wrongB_iff.1 q; have := h x hx; omega
def outU (k : Int) (l : List Int) : Int := (outI (useS k) l).getD 0
theorem comb_use {k : Int} {l : List Int} (h : ∀ x ∈ l, 0 ≤ x ∧ x ≤ 5) : combI (useS k) l = (outU k l, 0) := by
  cases q : outI (useS k) l with
  | none => exact absurd (useS_mem k) (out_none.1 q)
  | some a => rw [cF q (valid_right h), outU, q]; rfl
theorem CombineU_ok {w0 : World} {F : List HProp} {k : Int} {v : Value} {n : Nat} {xs : List Int} (hr : RdO w0 F v n (icells xs)) (hn : n = xs.length) (hl : n ≤ 1000) (hv : ∀ x ∈ xs, 0 ≤ x ∧ x ≤ 5) :
    FnO Try.prog w0 16 [.string (useS k), v] F (fun r l' => r = .tuple #[.int .i64 (outU k xs), .int .i64 0] ∧ l' = F) := by
  subst hn
  have h := Combine_ok (u := useS k) hr hl
  rw [comb_use hv] at h
  exact h

theorem mem_turn {l : List Int} {a b : Int} (h : turnI a = b) : b ∈ l.map turnI ↔ a ∈ l := by
  rw [List.mem_map]
  constructor
  · rintro ⟨x, hx, q⟩
    have : x = a := by rw [← turn_turn x, q, ← h, turn_turn]
    rw [← this]; exact hx
  · intro q; exact ⟨a, q, h⟩
theorem seen_turn (l : List Int) : seenL (l.map turnI) = turnS (seenL l) := by
  simp only [seenL, turnS, mem_turn (a := 0) (b := 0) rfl, mem_turn (a := 2) (b := 1) rfl, mem_turn (a := 1) (b := 2) rfl, mem_turn (a := 4) (b := 3) rfl, mem_turn (a := 3) (b := 4) rfl, mem_turn (a := 5) (b := 5) rfl]
theorem turn_zero {x : Int} : turnI x = 0 ↔ x = 0 := by
  constructor
  · intro h; rw [← turn_turn x, h]; rfl
  · rintro rfl; rfl
theorem nz_turn (l : List Int) : nz (l.map turnI) = (nz l).map turnI := by
  unfold nz
  rw [List.filter_map]
  congr 1
  apply List.filter_congr
  intro x _
  simp [turn_zero]
theorem turnS_turnS (s : Sn) : turnS (turnS s) = s := rfl
def pI (k : Int) : Int := if k % 6 = 0 then 1 else if k % 6 = 1 then 0 else if k % 6 = 4 then 5 else if k % 6 = 5 then 4 else k % 6
theorem use_cases (k : Int) : k % 6 = 0 ∧ useS k = uDO ∨ k % 6 = 1 ∧ useS k = uPO ∨ k % 6 = 2 ∧ useS k = uFI ∨ k % 6 = 3 ∧ useS k = uOO ∨ k % 6 = 4 ∧ useS k = uDP ∨ k % 6 = 5 ∧ useS k = uPD := by
  have : k % 6 = 0 ∨ k % 6 = 1 ∨ k % 6 = 2 ∨ k % 6 = 3 ∨ k % 6 = 4 ∨ k % 6 = 5 := by omega
  unfold useS
  rcases this with h | h | h | h | h | h <;> rw [h] <;> simp [uses]
theorem only_turn (l : List Int) : onlyI (l.map turnI) = turnI (onlyI l) := by
  unfold onlyI
  rw [nz_turn]
  rcases nz l with _ | ⟨x, _ | ⟨y, t⟩⟩ <;> rfl
theorem first_turn (l : List Int) : firstI (l.map turnI) = turnI (firstI l) := by
  unfold firstI
  rw [nz_turn]
  cases nz l <;> rfl
theorem outU_turn (k : Int) (l : List Int) : outU (pI k) (l.map turnI) = turnI (outU k l) := by
  have e : ∀ n : Int, 0 ≤ n → n < 6 → useS n = uses[n.toNat]?.getD uDO := fun n h0 h6 => by rw [useS, Int.emod_eq_of_lt h0 h6]
  rcases use_cases k with ⟨h, hu⟩ | ⟨h, hu⟩ | ⟨h, hu⟩ | ⟨h, hu⟩ | ⟨h, hu⟩ | ⟨h, hu⟩
  · have hp : useS (pI k) = uPO := by rw [pI, h]; rfl
    rw [outU, outU, o2 hp, o1 hu, seen_turn]; rfl
  · have hp : useS (pI k) = uDO := by rw [pI, h]; rfl
    rw [outU, outU, o1 hp, o2 hu, seen_turn]; simp [turn_turn]
  · have hp : useS (pI k) = uFI := by rw [pI, h]; rfl
    rw [outU, outU, o3 hp, o3 hu, first_turn]; rfl
  · have hp : useS (pI k) = uOO := by rw [pI, h]; rfl
    rw [outU, outU, o4 hp, o4 hu, only_turn]; rfl
  · have hp : useS (pI k) = uPD := by rw [pI, h]; rfl
    rw [outU, outU, o6 hp, o5 hu]
    simp only [mem_turn (l := l) (a := 1) (b := 2) rfl]
    by_cases q : 1 ∈ l <;> simp [q, turnI]
  · have hp : useS (pI k) = uDP := by rw [pI, h]; rfl
    rw [outU, outU, o5 hp, o6 hu]
    simp only [mem_turn (l := l) (a := 2) (b := 1) rfl]
    by_cases q : 2 ∈ l <;> simp [q, turnI]

theorem CombineTurns_ok {w0 : World} {k : Int} {v : Value} {l : List UInt8} (h0 : 0 ≤ k) (_ : k ≤ 255) (hr : Rd w0 [] v l.length (bcells l)) :
    FnO Try.prog w0 4 [.int .u8 k, v] [] (fun u _ => u = .bool true) := by
  obtain ⟨a, c, rfl⟩ := hr.lit
  refine FnO.intro (n := 65) Try.func4 rfl rfl rfl ?_
  refine J.seq ?_
  refine J.region ?_
  refine JL.pure rfl rfl (OpP.assign rfl) ?_
  refine JL.nil ?_
  refine J.seq ?_
  refine J.seq ?_
  refine J.region ?_
  refine JL.step rfl rfl (OpW.call (first := []) (captured := []) inferInstance rfl rfl awake_ok) ?_; rintro r12 _ ⟨rfl, rfl⟩
  refine JL.pure rfl rfl (OpP.notB rfl) ?_
  refine JL.pure rfl rfl (OpP.move rfl) ?_
  refine JL.pure rfl rfl (OpP.move rfl) ?_
  refine JL.pure rfl rfl (OpP.len rfl rfl) ?_
  refine JL.dec rfl rfl (OpP.gtr rfl rfl) (fun h17 => ?_) (fun h17 => ?_)
  focus
    refine JL.pure rfl rfl (OpP.pickF rfl rfl) ?_
    refine JL.nil ?_
    refine J.condT rfl ?_
    refine J.seq ?_
    refine J.region ?_
    refine JL.step rfl rfl (OpW.call (first := []) (captured := []) inferInstance rfl rfl awake_ok) ?_; rintro r19 _ ⟨rfl, rfl⟩
    refine JL.pure rfl rfl (OpP.assign rfl) ?_
    refine JL.nil ?_
    refine J.ret1 rfl rfl ?_
  rotate_left 1
  focus
    refine JL.pure rfl rfl (OpP.pickF rfl rfl) ?_
    refine JL.nil ?_
    refine J.condF rfl ?_
    refine J.skip ?_
    refine J.seq ?_
    refine J.region ?_
    refine JL.pure rfl rfl (OpP.move rfl) ?_
    refine JL.step rfl rfl (OpW.call (first := []) (captured := []) inferInstance rfl rfl (answers_ok hr.ao (by omega))) ?_; rintro r21 _ rfl
    refine JL.lit .head fun ar21 cr21 er21 => ?_; subst er21
    refine JL.pure rfl rfl (OpP.assign rfl) ?_
    refine JL.nil ?_
    refine J.seq ?_
    refine J.region ?_
    refine JL.pure rfl rfl (OpP.assign rfl) ?_
    refine JL.nil ?_
    refine J.seq ?_
    refine J.seq ?_
    refine J.region ?_
    refine JL.pure rfl rfl (OpP.assign rfl) ?_
    refine JL.nil ?_
    refine J.block ?_
  rotate_left 1
  · rfl
  have hal := ans_length l
  refine J.loopI (fun x : Nat × Value => l.length - x.1) (fun x => x.1 ≤ l.length) (fun x => [(7, .int .i64 (x.1 : Nat)), (6, x.2), (5, .slice ar21 l.length cr21), (0, .int .u8 k)])
    (fun x => [own 3 1 x.2 x.1 (icells (((ans l).take x.1).map turnI)), own 3 1 (.slice ar21 l.length cr21) l.length (icells (ans l))]) (0, .slice none 0 0) (Nat.zero_le _) (by repeat (first | exact SubEnv.nil | refine SubEnv.cons (by first | rfl | exact congrArg (fun z => some (Value.int .i64 z)) (by omega) | (simp; done)) ?_)) (fun _ h => Own.own_nil h) (fun ⟨i, kv⟩ hi back => ?_)
  dsimp only at hi back ⊢
  by_cases hlt : i < l.length
  · obtain ⟨x, hx⟩ : ∃ x, (ans l)[i]? = some x := ⟨_, List.getElem?_eq_getElem (by omega)⟩
    have hx' := icells_get hx
    refine J.lit .head fun akv ckv ekv => ?_; subst ekv
    refine J.seq ?_
    refine J.seq ?_
    refine J.region ?_
    refine JL.pure rfl rfl (OpP.move rfl) ?_
    refine JL.pure rfl rfl (OpP.move rfl) ?_
    refine JL.pure rfl rfl (OpP.len rfl rfl) ?_
    refine JL.decT rfl rfl (OpP.lss rfl rfl) (by omega) ?_
    refine JL.nil ?_
    refine J.condT rfl ?_
    refine J.skip ?_
    refine J.seq ?_
    refine J.block ?_
    refine J.region ?_
    refine JL.pure rfl rfl (OpP.move rfl) ?_
    refine JL.pure rfl rfl (OpP.move rfl) ?_
    refine JL.pure rfl rfl (OpP.move rfl) ?_
    refine JL.ownSome (.tail .head) (by omega) fun gar21 par21 ear21 kar21 => ?_; subst ear21
    refine JL.pure rfl rfl (OpP.indexAddr rfl rfl (by omega) (by omega)) ?_
    refine JL.read rfl rfl (OpR.load1 rfl (by apply Cells.cell (hv := hx') (Cells.own (.tail .head)) (fun _ h => h); omega)) ?_
    refine JL.step rfl rfl (OpW.call (first := []) (captured := []) inferInstance rfl rfl Turned_ok) ?_; rintro r33 _ ⟨rfl, rfl⟩
    refine JL.mem rfl rfl (by apply OpM.buildSlice (by rfl) rfl (by rfl); (repeat (first | exact Fills.nil | (apply Fills.cons rfl rfl rfl; (case' hs => ((repeat (first | exact Spl.nil | apply Spl.here | apply Spl.there)); done)))))) ?_; rintro _ _ ⟨b34, rfl, rfl⟩
    refine JL.f1 ?_; refine JL.mem rfl rfl (OpM.appendH rfl (.inl ⟨_, Sl.und inferInstance⟩) (by rfl) rfl rfl (RdO.src (RdO.ofRow (.tail .head) (by first | decide | omega)) (by first | assumption | (simp; done) | (simp; omega))) (one1 rfl) (by simp only [maxLen]; omega) (by omega)) ?_; rintro _ _ ⟨⟨a35, c35, rfl⟩, rfl⟩
    refine JL.pure rfl rfl (OpP.assign rfl) ?_
    refine JL.nil ?_
    refine J.inBlock ?_
    refine J.region ?_
    refine JL.pure rfl rfl (OpP.move rfl) ?_
    refine JL.pure rfl rfl (OpP.addI rfl rfl (by omega) (by omega)) ?_
    refine JL.pure rfl rfl (OpP.assign rfl) ?_
    refine JL.nil ?_
    have e1 : icells (((ans l).take (i + 1)).map turnI) = icells (((ans l).take i).map turnI) ++ [.int .i64 (turnI x)] := by
      rw [List.take_add_one, hx]; simp [icells]
    refine back (i + 1, _) (by dsimp only; omega) (by dsimp only; omega) (by repeat (first | exact SubEnv.nil | refine SubEnv.cons (by first | rfl | exact congrArg (fun z => some (Value.int .i64 z)) (by omega) | (simp; done)) ?_)) (fun w h => ?_)
    dsimp only
    rw [e1]
    exact Own.pick (pre := [_, _, _]) [0, 2] rfl h
  · have hil : i = l.length := by omega
    subst hil
    rw [List.take_of_length_le (by omega)]
    have hv := ans_valid (l := l)
    have hv2 : ∀ x ∈ (ans l).map turnI, 0 ≤ x ∧ x ≤ 5 := by
      intro x hx
      obtain ⟨y, hy, rfl⟩ := List.mem_map.1 hx
      have := hv y hy
      simp only [turnI]
      repeat' split
      all_goals omega
    have hp0 : 0 ≤ pI k := by unfold pI; repeat' split; all_goals omega
    have hix : [Value.int .u8 1, .int .u8 0, .int .u8 2, .int .u8 3, .int .u8 5, .int .u8 4][(k % 6).toNat]? = some (.int .u8 (pI k)) := by
      have : k % 6 = 0 ∨ k % 6 = 1 ∨ k % 6 = 2 ∨ k % 6 = 3 ∨ k % 6 = 4 ∨ k % 6 = 5 := by omega
      unfold pI
      rcases this with h | h | h | h | h | h <;> rw [h] <;> rfl
    have hou := outU_turn k (ans l)
    refine J.lit .head fun akv ckv ekv => ?_; subst ekv
    refine J.seq ?_
    refine J.seq ?_
    refine J.region ?_
    refine JL.pure rfl rfl (OpP.move rfl) ?_
    refine JL.pure rfl rfl (OpP.move rfl) ?_
    refine JL.pure rfl rfl (OpP.len rfl rfl) ?_
    refine JL.decF rfl rfl (OpP.lss rfl rfl) (by omega) ?_
    refine JL.nil ?_
    refine J.condF rfl ?_
    refine J.exit rfl ?_
    refine J.seq ?_
    refine J.region ?_
    refine JL.pure rfl rfl (OpP.move rfl) ?_
    refine JL.step rfl rfl (OpW.call (first := []) (captured := []) inferInstance rfl rfl (use_ok h0)) ?_; rintro r38 _ ⟨rfl, rfl⟩
    refine JL.pure rfl rfl (OpP.move rfl) ?_
    refine JL.step rfl rfl (OpW.call (first := []) (captured := []) inferInstance rfl rfl (CombineU_ok (xs := ans l) (RdO.own (.tail .head)) hal.symm (by omega) hv)) ?_; rintro r40 _ ⟨rfl, rfl⟩
    refine JL.pure rfl rfl (OpP.move rfl) ?_
    refine JL.pure rfl rfl (OpP.extract rfl rfl) ?_
    refine JL.pure rfl rfl (OpP.extract rfl rfl) ?_
    refine JL.pure rfl rfl (OpP.assign rfl) ?_
    refine JL.pure rfl rfl (OpP.assign rfl) ?_
    refine JL.nil ?_
    refine J.seq ?_
    refine J.region ?_
    refine JL.pure rfl rfl (OpP.buildA rfl (by (repeat (first | exact Fills.nil | (apply Fills.cons rfl rfl rfl; (case' hs => ((repeat (first | exact Spl.nil | apply Spl.here | apply Spl.there)); done))))))) ?_
    refine JL.pure rfl rfl (OpP.move rfl) ?_
    refine JL.pure rfl rfl (OpP.remI rfl rfl (by omega) (by omega)) ?_
    refine JL.pure rfl rfl (OpP.indexArr1 rfl rfl (by omega) (by omega) (by assumption)) ?_
    refine JL.step rfl rfl (OpW.call (first := []) (captured := []) inferInstance rfl rfl (use_ok hp0)) ?_; rintro r48 _ ⟨rfl, rfl⟩
    refine JL.pure rfl rfl (OpP.move rfl) ?_
    refine JL.step rfl rfl (OpW.call (first := []) (captured := []) inferInstance rfl rfl (CombineU_ok (xs := (ans l).map turnI) (RdO.own .head) (by simp [hal]) (by omega) hv2)) ?_; rintro r50 _ ⟨rfl, rfl⟩
    refine JL.pure rfl rfl (OpP.move rfl) ?_
    refine JL.pure rfl rfl (OpP.extract rfl rfl) ?_
    refine JL.pure rfl rfl (OpP.extract rfl rfl) ?_
    refine JL.pure rfl rfl (OpP.assign rfl) ?_
    refine JL.pure rfl rfl (OpP.assign rfl) ?_
    refine JL.nil ?_
    refine J.seq ?_
    refine J.region ?_
    refine JL.pure rfl rfl (OpP.move rfl) ?_
    refine JL.decT rfl rfl (OpP.eql rfl rfl) (by omega) ?_
    refine JL.pure rfl rfl (OpP.move rfl) ?_
    refine JL.pure rfl rfl (OpP.move rfl) ?_
    refine JL.decT rfl rfl (OpP.eql rfl rfl) (by omega) ?_
    refine JL.pure rfl rfl (OpP.pickT rfl rfl) ?_
    refine JL.pure rfl rfl (OpP.move rfl) ?_
    refine JL.pure rfl rfl (OpP.move rfl) ?_
    refine JL.step rfl rfl (OpW.call (first := []) (captured := []) inferInstance rfl rfl Turned_ok) ?_; rintro r61 _ ⟨rfl, rfl⟩
    refine JL.pure rfl rfl (OpP.move rfl) ?_
    refine JL.decT rfl rfl (OpP.eql rfl rfl) (by omega) ?_
    refine JL.pure rfl rfl (OpP.pickT rfl rfl) ?_
    refine JL.pure rfl rfl (OpP.assign rfl) ?_
    refine JL.nil ?_
    refine J.ret1 rfl rfl ?_
    rfl
end Go.Proofs.C
