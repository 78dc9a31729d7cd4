/- A text of the proof of a statement about the given program: its part CComb5. No person has read it. -/
import Derived.Test.YtaodplndajeckaaCComb4
import Derived.Test.YtaodplndajeckaaJ20
-- seat c
namespace Go.Proofs.C
open Go Go.Gp Go.RowKit

theorem out_ref {u : ByteArray} {l : List Int} {a : Int} (h : outI u l = some a) : refI u l = a := by
  unfold outI at h
  split at h
  · cases h
    rw [r1 (by assumption)]
    rfl
  · split at h
    · cases h
      rw [r2 (by assumption)]
      simp only [seenL, turnS, denies, overB, turnI]
      by_cases q1 : 1 ∈ l <;> by_cases q2 : 2 ∈ l <;> by_cases q3 : 3 ∈ l <;> by_cases q4 : 4 ∈ l <;> by_cases q5 : 5 ∈ l <;> simp [q1, q2, q3, q4, q5]
    · split at h
      · cases h; rw [r3 (by assumption)]
      · split at h
        · cases h
          rw [r4 (by assumption)]
          unfold onlyI firstI
          rcases nz l with _ | ⟨x, _ | ⟨y, t⟩⟩
          · rfl
          · rfl
          · simp
        · split at h
          · cases h
            rw [r5 (by assumption)]
            by_cases q : 1 ∈ l <;> simp [q, List.count_pos_iff]
          · split at h
            · cases h
              rw [r6 (by assumption) (by assumption) (by assumption) (by assumption) (by assumption)]
              by_cases q : 2 ∈ l <;> simp [q, List.count_pos_iff]
            · cases h
theorem out_none {u : ByteArray} {l : List Int} : outI u l = none ↔ u ∉ uses := by
  unfold outI uses
  constructor
  · intro h
    split at h; · cases h
    split at h; · cases h
    split at h; · cases h
    split at h; · cases h
    split at h; · cases h
    split at h; · cases h
    simp_all
  · intro h
    simp only [List.mem_cons, List.not_mem_nil, or_false, not_or] at h
    rw [if_neg h.1, if_neg h.2.1, if_neg h.2.2.1, if_neg h.2.2.2.1, if_neg h.2.2.2.2.1, if_neg h.2.2.2.2.2]
theorem useS_mem (k : Int) : useS k ∈ uses := by
  unfold useS
  have : (k % 6).toNat < uses.length := by show (k % 6).toNat < 6; omega
  rw [List.getElem?_eq_getElem this]
  exact List.getElem_mem this
theorem useS_nat {i : Nat} (h : i < 6) : uses[i]? = some (useS i) := by
  have : i = 0 ∨ i = 1 ∨ i = 2 ∨ i = 3 ∨ i = 4 ∨ i = 5 := by omega
  rcases this with rfl | rfl | rfl | rfl | rfl | rfl <;> rfl
def knownB (u : ByteArray) (i : Nat) : Bool := (uses.take i).any fun s => decide (s = u)
theorem known_snoc {i : Nat} {u : ByteArray} (h : i < 6) : knownB u (i + 1) = (knownB u i || decide (useS i = u)) := by
  unfold knownB
  rw [List.take_add_one, useS_nat h]
  simp
theorem known_all {u : ByteArray} : knownB u 6 = true ↔ u ∈ uses := by
  unfold knownB
  rw [List.take_of_length_le (by decide), List.any_eq_true]
  constructor
  · rintro ⟨s, hs, h⟩
    rw [← of_decide_eq_true h]; exact hs
  · intro h; exact ⟨u, h, decide_eq_true rfl⟩
theorem wrongB_iff {l : List Int} : wrongB l = true ↔ ∃ x ∈ l, x < 0 ∨ 5 < x := by simp [wrongB]

theorem CombineTells_ok {w0 : World} {name : ByteArray} {v : Value} {xs : List Int} {k o : UInt8} (hr : Rd w0 [] v xs.length (icells xs)) :
    FnO Try.prog w0 3 [.string name, v, .agg #[u8c k, u8c o]] [] (fun u _ => u = .bool true) := by
  obtain ⟨a, c, rfl⟩ := hr.lit
  refine FnO.intro (n := 95) Try.func3 rfl rfl rfl ?_
  refine J.seq ?_
  refine J.region ?_
  refine JL.mem rfl rfl (OpM.box rfl rfl) ?_; rintro _ _ ⟨b5, rfl, rfl⟩
  refine JL.pure rfl rfl (OpP.assign rfl) ?_
  refine JL.nil ?_
  refine J.seq ?_
  refine J.cut (σ := Bool) (fun _ => True) (fun b => [(8, .bool b), (7, u8c k), (6, .bool false), (0, .string name), (1, .slice a xs.length c)]) (fun _ => []) (fun own _ => ?_) (fun k' go => ?_)
  · have hk0 : (0 : Int) ≤ (k.toNat : Int) := by omega
    refine J.seq ?_
    refine J.seq ?_
    refine J.region ?_
    refine JL.step rfl rfl (OpW.call (first := []) (captured := []) inferInstance rfl rfl awake_ok) ?_; rintro r20 _ ⟨rfl, rfl⟩
    refine JL.pure rfl rfl (OpP.notB rfl) ?_
    refine JL.pure rfl rfl (OpP.move rfl) ?_
    refine JL.pure rfl rfl (OpP.move rfl) ?_
    refine JL.pure rfl rfl (OpP.len rfl rfl) ?_
    refine JL.dec rfl rfl (OpP.gtr rfl rfl) (fun h25 => ?_) (fun h25 => ?_)
    focus
      refine JL.pure rfl rfl (OpP.pickF rfl rfl) ?_
      refine JL.pure rfl rfl (OpP.move rfl) ?_
      refine JL.skip rfl rfl ?_
      refine JL.skip rfl rfl ?_
      refine JL.skip rfl rfl ?_
      refine JL.pure rfl rfl (OpP.pickT rfl rfl) ?_
      refine JL.nil ?_
      refine J.condT rfl ?_
      refine J.seq ?_
      refine J.region ?_
      refine JL.step rfl rfl (OpW.call (first := []) (captured := []) inferInstance rfl rfl awake_ok) ?_; rintro r32 _ ⟨rfl, rfl⟩
      refine JL.pure rfl rfl (OpP.assign rfl) ?_
      refine JL.nil ?_
      refine J.ret1 rfl rfl ?_
    rotate_left 1
    focus
      refine JL.pure rfl rfl (OpP.pickF rfl rfl) ?_
      refine JL.pure rfl rfl (OpP.move rfl) ?_
      refine JL.pure rfl rfl (OpP.move rfl) ?_
      refine JL.pure rfl rfl (OpP.lenStr rfl rfl) ?_
      refine JL.dec rfl rfl (OpP.gtr rfl rfl) (fun h30 => ?_) (fun h30 => ?_)
      focus
        refine JL.pure rfl rfl (OpP.pickF rfl rfl) ?_
        refine JL.nil ?_
        refine J.condT rfl ?_
        refine J.seq ?_
        refine J.region ?_
        refine JL.step rfl rfl (OpW.call (first := []) (captured := []) inferInstance rfl rfl awake_ok) ?_; rintro r32 _ ⟨rfl, rfl⟩
        refine JL.pure rfl rfl (OpP.assign rfl) ?_
        refine JL.nil ?_
        refine J.ret1 rfl rfl ?_
      rotate_left 1
      focus
        refine JL.pure rfl rfl (OpP.pickF rfl rfl) ?_
        refine JL.nil ?_
        refine J.condF rfl ?_
        refine J.skip ?_
        refine J.seq ?_
        refine J.region ?_
        refine JL.pure rfl rfl (OpP.move rfl) ?_
        refine JL.pure rfl rfl (OpP.assign rfl) ?_
        refine JL.nil ?_
        refine J.seq ?_
      rotate_left 1
    rotate_left 2
    · rfl
    · rfl
    refine J.cut (σ := ByteArray) (fun _ => True) (fun u => [(9, .string u), (6, .bool false), (1, .slice a xs.length c)]) (fun _ => []) (fun u _ => ?_) (fun k' go => ?_)
    · refine J.seq ?_
      refine J.region ?_
      refine JL.pure rfl rfl (OpP.move rfl) ?_
      refine JL.pure rfl rfl (OpP.move rfl) ?_
      refine JL.step rfl rfl (OpW.call (first := []) (captured := []) inferInstance rfl rfl (Combine_ok hr.ao (by omega))) ?_; rintro r40 _ ⟨rfl, rfl⟩
      refine JL.pure rfl rfl (OpP.move rfl) ?_
      refine JL.pure rfl rfl (OpP.extract rfl rfl) ?_
      refine JL.pure rfl rfl (OpP.extract rfl rfl) ?_
      refine JL.pure rfl rfl (OpP.assign rfl) ?_
      refine JL.pure rfl rfl (OpP.assign rfl) ?_
      refine JL.nil ?_
      refine J.seq ?_
      refine J.region ?_
      refine JL.pure rfl rfl (OpP.assign rfl) ?_
      refine JL.nil ?_
      refine J.seq ?_
      refine J.seq ?_
      refine J.region ?_
      refine JL.pure rfl rfl (OpP.assign rfl) ?_
      refine JL.nil ?_
      refine J.block ?_
      refine J.loopI (fun i : Nat => 6 - i) (fun i => i ≤ 6) (fun i => [(13, .int .u8 (i : Nat)), (12, .bool (knownB u i)), (11, .int .i64 (combI u xs).2), (10, .int .i64 (combI u xs).1), (9, .string u), (6, .bool false), (1, .slice a xs.length c)]) (fun _ => []) 0 (Nat.zero_le _) (by repeat (first | exact SubEnv.nil | refine SubEnv.cons (by first | rfl | exact congrArg (fun z => some (Value.int .i64 z)) (by omega) | (simp; done)) ?_)) (fun _ h => h) (fun i hi back => ?_)
      by_cases hlt : i < 6
      · have hkn := known_snoc (u := u) hlt
        have hi0 : (0 : Int) ≤ (i : Nat) := by omega
        refine J.seq ?_
        refine J.seq ?_
        refine J.region ?_
        refine JL.pure rfl rfl (OpP.move rfl) ?_
        refine JL.decT rfl rfl (OpP.lss rfl rfl) (by omega) ?_
        refine JL.nil ?_
        refine J.condT rfl ?_
        refine J.skip ?_
        refine J.seq ?_
        refine J.block ?_
        refine J.region ?_
        refine JL.pure rfl rfl (OpP.move rfl) ?_
        refine JL.pure rfl rfl (OpP.move rfl) ?_
        refine JL.splitAt 48 rfl (fun h48 => ?_) (fun h48 => ?_)
        focus
          refine JL.skip rfl rfl ?_
          refine JL.skip rfl rfl ?_
          refine JL.skip rfl rfl ?_
          refine JL.skip rfl rfl ?_
          refine JL.pure rfl rfl (OpP.pickT rfl rfl) ?_
          refine JL.pure rfl rfl (OpP.assign rfl) ?_
          refine JL.nil ?_
          refine J.inBlock ?_
          refine J.region ?_
          refine JL.pure rfl rfl (OpP.move rfl) ?_
          refine JL.pure rfl rfl (OpP.addK rfl rfl (by simp [IntKind.min, IntKind.max, IntKind.signed, IntKind.bits] <;> omega) (by simp [IntKind.min, IntKind.max, IntKind.signed, IntKind.bits] <;> omega)) ?_
          refine JL.pure rfl rfl (OpP.assign rfl) ?_
          refine JL.nil ?_
        rotate_left 1
        focus
          refine JL.pure rfl rfl (OpP.move rfl) ?_
          refine JL.step rfl rfl (OpW.call (first := []) (captured := []) inferInstance rfl rfl (use_ok hi0)) ?_; rintro r50 _ ⟨rfl, rfl⟩
          refine JL.pure rfl rfl (OpP.move rfl) ?_
          refine JL.dec rfl rfl (OpP.eqStr rfl rfl) (fun h52 => ?_) (fun h52 => ?_)
          focus
            refine JL.pure rfl rfl (OpP.pickF rfl rfl) ?_
            refine JL.pure rfl rfl (OpP.assign rfl) ?_
            refine JL.nil ?_
            refine J.inBlock ?_
            refine J.region ?_
            refine JL.pure rfl rfl (OpP.move rfl) ?_
            refine JL.pure rfl rfl (OpP.addK rfl rfl (by simp [IntKind.min, IntKind.max, IntKind.signed, IntKind.bits] <;> omega) (by simp [IntKind.min, IntKind.max, IntKind.signed, IntKind.bits] <;> omega)) ?_
            refine JL.pure rfl rfl (OpP.assign rfl) ?_
            refine JL.nil ?_
          rotate_left 1
          focus
            refine JL.pure rfl rfl (OpP.pickF rfl rfl) ?_
            refine JL.pure rfl rfl (OpP.assign rfl) ?_
            refine JL.nil ?_
            refine J.inBlock ?_
            refine J.region ?_
            refine JL.pure rfl rfl (OpP.move rfl) ?_
            refine JL.pure rfl rfl (OpP.addK rfl rfl (by simp [IntKind.min, IntKind.max, IntKind.signed, IntKind.bits] <;> omega) (by simp [IntKind.min, IntKind.max, IntKind.signed, IntKind.bits] <;> omega)) ?_
            refine JL.pure rfl rfl (OpP.assign rfl) ?_
            refine JL.nil ?_
          rotate_left 1
        rotate_left 2
        · refine back (i + 1) (by omega) (by omega) (by rw [hkn, h48]; exact (by repeat (first | exact SubEnv.nil | refine SubEnv.cons (by first | rfl | exact congrArg (fun z => some (Value.int .i64 z)) (by omega) | (simp; done)) ?_))) (fun _ h => h)
        · refine back (i + 1) (by omega) (by omega) (by rw [hkn, h48, decide_eq_true h52]; exact (by repeat (first | exact SubEnv.nil | refine SubEnv.cons (by first | rfl | exact congrArg (fun z => some (Value.int .i64 z)) (by omega) | (simp; done)) ?_))) (fun _ h => h)
        · refine back (i + 1) (by omega) (by omega) (by rw [hkn, h48, decide_eq_false h52]; exact (by repeat (first | exact SubEnv.nil | refine SubEnv.cons (by first | rfl | exact congrArg (fun z => some (Value.int .i64 z)) (by omega) | (simp; done)) ?_))) (fun _ h => h)
      · have hi6 : i = 6 := by omega
        subst hi6
        have hk6 : knownB u 6 = false → combI u xs = (0, 8) := fun h => c0 (out_none.2 fun q => by rw [known_all.2 q] at h; cases h)
        have hk7 : knownB u 6 = true → ∃ a, outI u xs = some a ∧ refI u xs = a := fun h => by
          cases q : outI u xs with
          | none => exact absurd (known_all.1 h) (out_none.1 q)
          | some a => exact ⟨a, rfl, out_ref q⟩
        refine J.seq ?_
        refine J.seq ?_
        refine J.region ?_
        refine JL.pure rfl rfl (OpP.move rfl) ?_
        refine JL.decF rfl rfl (OpP.lss rfl rfl) (by omega) ?_
        refine JL.nil ?_
        refine J.condF rfl ?_
        refine J.exit rfl ?_
        refine J.seq ?_
        refine J.seq ?_
        refine J.region ?_
        refine JL.pure rfl rfl (OpP.move rfl) ?_
        refine JL.pure rfl rfl (OpP.notB rfl) ?_
        refine JL.nil ?_
        refine J.splitAt 55 rfl (fun h55 => ?_) (fun h55 => ?_)
        focus
          refine J.condT rfl ?_
          refine J.seq ?_
          refine J.region ?_
          refine JL.pure rfl rfl (OpP.move rfl) ?_
          refine JL.dec rfl rfl (OpP.eql rfl rfl) (fun h57 => ?_) (fun h57 => ?_)
          focus
            refine JL.pure rfl rfl (OpP.move rfl) ?_
            refine JL.pure rfl rfl (OpP.move rfl) ?_
            refine JL.dec rfl rfl (OpP.eql rfl rfl) (fun h60 => ?_) (fun h60 => ?_)
            focus
              refine JL.pure rfl rfl (OpP.pickT rfl rfl) ?_
              refine JL.pure rfl rfl (OpP.assign rfl) ?_
              refine JL.nil ?_
              refine J.ret1 rfl rfl ?_
            rotate_left 1
            focus
              refine JL.pure rfl rfl (OpP.pickT rfl rfl) ?_
              refine JL.pure rfl rfl (OpP.assign rfl) ?_
              refine JL.nil ?_
              refine J.ret1 rfl rfl ?_
            rotate_left 1
          rotate_left 2
          focus
            refine JL.pure rfl rfl (OpP.move rfl) ?_
            refine JL.skip rfl rfl ?_
            refine JL.skip rfl rfl ?_
            refine JL.pure rfl rfl (OpP.pickF rfl rfl) ?_
            refine JL.pure rfl rfl (OpP.assign rfl) ?_
            refine JL.nil ?_
            refine J.ret1 rfl rfl ?_
          rotate_left 1
        rotate_left 3
        focus
          refine J.condF rfl ?_
          refine J.skip ?_
          refine J.seq ?_
        rotate_left 1
        · rfl
        · exact absurd (by rw [hk6 (by simpa using h55)]) h60
        · exact absurd (by rw [hk6 (by simpa using h55)]) h57
        obtain ⟨z, hz, hrz⟩ := hk7 (by simpa using h55)
        refine J.seq ?_
        refine J.region ?_
        refine JL.pure rfl rfl (OpP.assign rfl) ?_
        refine JL.nil ?_
        refine J.block ?_
        refine J.loopI (fun i : Nat => xs.length - i) (fun i => i ≤ xs.length ∧ ∀ j y, j < i → xs[j]? = some y → 0 ≤ y ∧ y ≤ 5) (fun i => [(14, .int .i64 (i : Nat)), (11, .int .i64 (combI u xs).2), (10, .int .i64 (combI u xs).1), (9, .string u), (6, .bool false), (1, .slice a xs.length c)]) (fun _ => []) 0 ⟨Nat.zero_le _, fun _ _ h => by omega⟩ (by repeat (first | exact SubEnv.nil | refine SubEnv.cons (by first | rfl | exact congrArg (fun z => some (Value.int .i64 z)) (by omega) | (simp; done)) ?_)) (fun _ h => h) (fun i ⟨hi, hf⟩ back => ?_)
        by_cases hlt : i < xs.length
        · obtain ⟨x, hx⟩ : ∃ x, xs[i]? = some x := ⟨_, List.getElem?_eq_getElem hlt⟩
          have hx' := icells_get hx
          have hw : (x < 0 ∨ 5 < x) → combI u xs = (0, 1) := fun q => cT hz (wrongB_iff.2 ⟨x, List.mem_of_getElem? hx, q⟩)
          refine J.seq ?_
          refine J.seq ?_
          refine J.region ?_
          refine JL.pure rfl rfl (OpP.move rfl) ?_
          refine JL.pure rfl rfl (OpP.move rfl) ?_
          refine JL.pure rfl rfl (OpP.len rfl rfl) ?_
          refine JL.decT rfl rfl (OpP.lss rfl rfl) (by omega) ?_
          refine JL.nil ?_
          refine J.condT rfl ?_
          refine J.skip ?_
          refine J.seq ?_
          refine J.block ?_
          refine J.seq ?_
          refine J.region ?_
          refine JL.pure rfl rfl (OpP.move rfl) ?_
          refine JL.pure rfl rfl (OpP.move rfl) ?_
          obtain ⟨ga, pa, qa, ea, ka, ca⟩ := hr.pos (by omega); cases ea
          refine JL.pure rfl rfl (OpP.indexAddr rfl rfl (by omega) (by omega)) ?_
          refine JL.read rfl rfl (OpR.load1 rfl (by apply Cells.cell ca (fun _ h => h.none); (case' hv => assumption); (case' ho => omega); done)) ?_
          refine JL.dec rfl rfl (OpP.lss rfl rfl) (fun h72 => ?_) (fun h72 => ?_)
          focus
            refine JL.pure rfl rfl (OpP.move rfl) ?_
            refine JL.skip rfl rfl ?_
            refine JL.skip rfl rfl ?_
            refine JL.skip rfl rfl ?_
            refine JL.skip rfl rfl ?_
            refine JL.skip rfl rfl ?_
            refine JL.pure rfl rfl (OpP.pickT rfl rfl) ?_
            refine JL.nil ?_
            refine J.condT rfl ?_
            refine J.seq ?_
            refine J.region ?_
            refine JL.pure rfl rfl (OpP.move rfl) ?_
            refine JL.dec rfl rfl (OpP.eql rfl rfl) (fun h81 => ?_) (fun h81 => ?_)
            focus
              refine JL.pure rfl rfl (OpP.move rfl) ?_
              refine JL.pure rfl rfl (OpP.move rfl) ?_
              refine JL.dec rfl rfl (OpP.eql rfl rfl) (fun h84 => ?_) (fun h84 => ?_)
              focus
                refine JL.pure rfl rfl (OpP.pickT rfl rfl) ?_
                refine JL.pure rfl rfl (OpP.assign rfl) ?_
                refine JL.nil ?_
                refine J.ret1 rfl rfl ?_
              rotate_left 1
              focus
                refine JL.pure rfl rfl (OpP.pickT rfl rfl) ?_
                refine JL.pure rfl rfl (OpP.assign rfl) ?_
                refine JL.nil ?_
                refine J.ret1 rfl rfl ?_
              rotate_left 1
            rotate_left 2
            focus
              refine JL.pure rfl rfl (OpP.move rfl) ?_
              refine JL.skip rfl rfl ?_
              refine JL.skip rfl rfl ?_
              refine JL.pure rfl rfl (OpP.pickF rfl rfl) ?_
              refine JL.pure rfl rfl (OpP.assign rfl) ?_
              refine JL.nil ?_
              refine J.ret1 rfl rfl ?_
            rotate_left 1
          rotate_left 3
          focus
            refine JL.pure rfl rfl (OpP.move rfl) ?_
            refine JL.pure rfl rfl (OpP.move rfl) ?_
            refine JL.pure rfl rfl (OpP.move rfl) ?_
            refine JL.pure rfl rfl (OpP.indexAddr rfl rfl (by omega) (by omega)) ?_
            refine JL.read rfl rfl (OpR.load1 rfl (by apply Cells.cell ca (fun _ h => h.none); (case' hv => assumption); (case' ho => omega); done)) ?_
            refine JL.dec rfl rfl (OpP.gtr rfl rfl) (fun h78 => ?_) (fun h78 => ?_)
            focus
              refine JL.pure rfl rfl (OpP.pickF rfl rfl) ?_
              refine JL.nil ?_
              refine J.condT rfl ?_
              refine J.seq ?_
              refine J.region ?_
              refine JL.pure rfl rfl (OpP.move rfl) ?_
              refine JL.dec rfl rfl (OpP.eql rfl rfl) (fun h81 => ?_) (fun h81 => ?_)
              focus
                refine JL.pure rfl rfl (OpP.move rfl) ?_
                refine JL.pure rfl rfl (OpP.move rfl) ?_
                refine JL.dec rfl rfl (OpP.eql rfl rfl) (fun h84 => ?_) (fun h84 => ?_)
                focus
                  refine JL.pure rfl rfl (OpP.pickT rfl rfl) ?_
                  refine JL.pure rfl rfl (OpP.assign rfl) ?_
                  refine JL.nil ?_
                  refine J.ret1 rfl rfl ?_
                rotate_left 1
                focus
                  refine JL.pure rfl rfl (OpP.pickT rfl rfl) ?_
                  refine JL.pure rfl rfl (OpP.assign rfl) ?_
                  refine JL.nil ?_
                  refine J.ret1 rfl rfl ?_
                rotate_left 1
              rotate_left 2
              focus
                refine JL.pure rfl rfl (OpP.move rfl) ?_
                refine JL.skip rfl rfl ?_
                refine JL.skip rfl rfl ?_
                refine JL.pure rfl rfl (OpP.pickF rfl rfl) ?_
                refine JL.pure rfl rfl (OpP.assign rfl) ?_
                refine JL.nil ?_
                refine J.ret1 rfl rfl ?_
              rotate_left 1
            rotate_left 3
            focus
              refine JL.pure rfl rfl (OpP.pickF rfl rfl) ?_
              refine JL.nil ?_
              refine J.condF rfl ?_
              refine J.skip ?_
              refine J.inBlock ?_
              refine J.region ?_
              refine JL.pure rfl rfl (OpP.move rfl) ?_
              refine JL.pure rfl rfl (OpP.addI rfl rfl (by omega) (by omega)) ?_
              refine JL.pure rfl rfl (OpP.assign rfl) ?_
              refine JL.nil ?_
            rotate_left 1
          rotate_left 4
          · rfl
          · exact absurd (by rw [hw (.inl h72)]) h84
          · exact absurd (by rw [hw (.inl h72)]) h81
          · rfl
          · exact absurd (by rw [hw (.inr h78)]) h84
          · exact absurd (by rw [hw (.inr h78)]) h81
          · refine back (i + 1) ⟨by omega, fun j y hj hy => ?_⟩ (by omega) (by repeat (first | exact SubEnv.nil | refine SubEnv.cons (by first | rfl | exact congrArg (fun z => some (Value.int .i64 z)) (by omega) | (simp; done)) ?_)) (fun _ h => h)
            by_cases hji : j < i
            · exact hf j y hji hy
            · obtain rfl : j = i := by omega
              rw [hx] at hy; cases hy; omega
        · have hall : ∀ x ∈ xs, 0 ≤ x ∧ x ≤ 5 := fun x hx => by
            obtain ⟨j, hj⟩ := List.getElem?_of_mem hx
            exact hf j x (by have := (List.getElem?_eq_some_iff.1 hj).1; omega) hj
          refine J.seq ?_
          refine J.seq ?_
          refine J.region ?_
          refine JL.pure rfl rfl (OpP.move rfl) ?_
          refine JL.pure rfl rfl (OpP.move rfl) ?_
          refine JL.pure rfl rfl (OpP.len rfl rfl) ?_
          refine JL.decF rfl rfl (OpP.lss rfl rfl) (by omega) ?_
          refine JL.nil ?_
          refine J.condF rfl ?_
          refine J.exit rfl ?_
          refine J.seq ?_
          refine J.region ?_
          refine JL.pure rfl rfl (OpP.move rfl) ?_
          refine JL.dec rfl rfl (OpP.eql rfl rfl) (fun h87 => ?_) (fun h87 => ?_)
          focus
            refine JL.pure rfl rfl (OpP.move rfl) ?_
            refine JL.pure rfl rfl (OpP.move rfl) ?_
            refine JL.pure rfl rfl (OpP.move rfl) ?_
            refine JL.pure rfl rfl (OpP.move rfl) ?_
            refine JL.step rfl rfl (OpW.call (first := []) (captured := []) inferInstance rfl rfl (Ref_ok hr.ao (by omega) hall)) ?_; rintro r92 _ ⟨rfl, rfl⟩
            refine JL.dec rfl rfl (OpP.eql rfl rfl) (fun h93 => ?_) (fun h93 => ?_)
            focus
              refine JL.pure rfl rfl (OpP.pickT rfl rfl) ?_
              refine JL.pure rfl rfl (OpP.assign rfl) ?_
              refine JL.nil ?_
              refine J.ret1 rfl rfl ?_
            rotate_left 1
            focus
              refine JL.pure rfl rfl (OpP.pickT rfl rfl) ?_
              refine JL.pure rfl rfl (OpP.assign rfl) ?_
              refine JL.nil ?_
              refine J.ret1 rfl rfl ?_
            rotate_left 1
          rotate_left 2
          focus
            refine JL.pure rfl rfl (OpP.move rfl) ?_
            refine JL.skip rfl rfl ?_
            refine JL.skip rfl rfl ?_
            refine JL.skip rfl rfl ?_
            refine JL.skip rfl rfl ?_
            refine JL.skip rfl rfl ?_
            refine JL.pure rfl rfl (OpP.pickF rfl rfl) ?_
            refine JL.pure rfl rfl (OpP.assign rfl) ?_
            refine JL.nil ?_
            refine J.ret1 rfl rfl ?_
          rotate_left 1
          all_goals
            have hwf : wrongB xs = false := by
              cases q : wrongB xs with
              | false => rfl
              | true =>
                obtain ⟨x, hx, h5⟩ := wrongB_iff.1 q
                obtain ⟨j, hj⟩ := List.getElem?_of_mem hx
                have := hf j x (by have := (List.getElem?_eq_some_iff.1 hj).1; omega) hj
                omega
            have q : combI u xs = (z, 0) := cF hz hwf
          · rfl
          · exact absurd (by rw [q, hrz]) h93
          · exact absurd (by rw [q]) h87
    · refine J.seq ?_
      refine J.region ?_
      refine JL.pure rfl rfl (OpP.move rfl) ?_
      refine JL.nil ?_
      refine J.splitAt 34 rfl (fun h34 => ?_) (fun h34 => ?_)
      focus
        refine J.condT rfl ?_
        refine J.region ?_
        refine JL.pure rfl rfl (OpP.move rfl) ?_
        refine JL.step rfl rfl (OpW.call (first := []) (captured := []) inferInstance rfl rfl (use_ok hk0)) ?_; rintro r36 _ ⟨rfl, rfl⟩
        refine JL.pure rfl rfl (OpP.assign rfl) ?_
        refine JL.nil ?_
      rotate_left 1
      focus
        refine J.condF rfl ?_
        refine J.skip ?_
      rotate_left 1
      · exact go _ trivial (by repeat (first | exact SubEnv.nil | refine SubEnv.cons (by first | rfl | exact congrArg (fun z => some (Value.int .i64 z)) (by omega) | (simp; done)) ?_)) (fun _ h => h)
      · exact go _ trivial (by repeat (first | exact SubEnv.nil | refine SubEnv.cons (by first | rfl | exact congrArg (fun z => some (Value.int .i64 z)) (by omega) | (simp; done)) ?_)) (fun _ h => h)
  · refine J.regionD [1, 3] (by kernel_rfl) ?_
    refine DL.pure (i := 0) (by kernel_rfl) (by kernel_rfl) rfl rfl rfl (OpP.indexAddrA rfl rfl (by omega) (by omega)) ?_
    refine DL.read (i := 1) (by kernel_rfl) (by kernel_rfl) rfl rfl rfl (fun _ h => h) (OpR.load1 rfl (Cell.row .head rfl)) ?_
    refine DL.pure (i := 2) (by kernel_rfl) (by kernel_rfl) rfl rfl rfl (OpP.indexAddrA rfl rfl (by omega) (by omega)) ?_
    refine DL.read (i := 3) (by kernel_rfl) (by kernel_rfl) rfl rfl rfl (fun _ h => h) (OpR.load1 rfl (Cell.row .head rfl)) ?_
    refine DL.dec (i := 4) (by kernel_rfl) (by kernel_rfl) rfl rfl rfl (OpP.gtr rfl rfl) (fun h19 => ?_) (fun h19 => ?_)
    focus
      refine DL.pure (i := 5) (by kernel_rfl) (by kernel_rfl) rfl rfl rfl (OpP.assign rfl) ?_
      refine DL.pure (i := 6) (by kernel_rfl) (by kernel_rfl) rfl rfl rfl (OpP.assign rfl) ?_
      refine DL.done (by kernel_rfl) ?_
    rotate_left 1
    focus
      refine DL.pure (i := 5) (by kernel_rfl) (by kernel_rfl) rfl rfl rfl (OpP.assign rfl) ?_
      refine DL.pure (i := 6) (by kernel_rfl) (by kernel_rfl) rfl rfl rfl (OpP.assign rfl) ?_
      refine DL.done (by kernel_rfl) ?_
    rotate_left 1
    · exact go _ trivial (by repeat (first | exact SubEnv.nil | refine SubEnv.cons (by first | rfl | exact congrArg (fun z => some (Value.int .i64 z)) (by omega) | (simp; done)) ?_)) (fun _ h => h.tail)
    · exact go _ trivial (by repeat (first | exact SubEnv.nil | refine SubEnv.cons (by first | rfl | exact congrArg (fun z => some (Value.int .i64 z)) (by omega) | (simp; done)) ?_)) (fun _ h => h.tail)

theorem CombineTells_law {W : World} {name : ByteArray} {a : Option Addr} {n c : Nat} {at_ : Array Value} (_ : name.size ≤ 140737488351232) (h : Fm Try.prog W 22 [.slice a n c]) (h2 : Fm Try.prog W 23 at_.toList) :
    Calls Try.prog 3 #[.string name, .slice a n c, .agg at_] W fun e w' => e = .returned (.bool true) ∧ Below W.heap.size W w' := by
  obtain ⟨xs, _, hr⟩ := h.ints Try.underlying22 Try.underlying3 (by kernel_rfl)
  obtain ⟨p, hp⟩ := h2.pair Try.underlying23 Try.underlying5 (by kernel_rfl) (by kernel_rfl)
  obtain rfl : at_ = #[u8c p.1, u8c p.2] := Array.toList_inj.1 hp
  exact FnO.law (args := [.string name, .slice a n c, .agg #[u8c p.1, u8c p.2]]) (CombineTells_ok hr) (Own.nil W)
end Go.Proofs.C
