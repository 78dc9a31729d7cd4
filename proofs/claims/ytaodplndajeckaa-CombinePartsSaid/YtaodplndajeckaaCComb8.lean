/- A text of the proof of a statement about the given program: its part CComb8. No person has read it. -/
import Derived.Test.YtaodplndajeckaaCComb7
import Derived.Test.YtaodplndajeckaaJ20
-- seat c
namespace Go.Proofs.C
open Go Go.Gp Go.RowKit

theorem denies_range (s : Sn) : 0 ≤ denies s ∧ denies s ≤ 5 := by unfold denies; constructor <;> (repeat' split) <;> decide
theorem turn_range {a : Int} (h : 0 ≤ a ∧ a ≤ 5) : 0 ≤ turnI a ∧ turnI a ≤ 5 := by unfold turnI; constructor <;> (repeat' split) <;> omega
def joinS (s t : Sn) : Sn := ⟨s.b0 || t.b0, s.b1 || t.b1, s.b2 || t.b2, s.b3 || t.b3, s.b4 || t.b4, s.b5 || t.b5⟩
theorem seen_append (l m : List Int) : seenL (l ++ m) = joinS (seenL l) (seenL m) := by simp [seenL, joinS, List.mem_append]
theorem denies_part (s t : Sn) : denies (seenL [denies s, denies t]) = denies (joinS s t) := by
  obtain ⟨s0, s1, s2, s3, s4, s5⟩ := s
  obtain ⟨t0, t1, t2, t3, t4, t5⟩ := t
  cases s1 <;> cases s2 <;> cases s3 <;> cases s4 <;> cases s5 <;> cases t1 <;> cases t2 <;> cases t3 <;> cases t4 <;> cases t5 <;> rfl
theorem turn_join (s t : Sn) : turnS (joinS s t) = joinS (turnS s) (turnS t) := rfl
theorem outU_part {k : Int} (l m : List Int) (h : k % 6 = 0 ∨ k % 6 = 1) : outU k [outU k l, outU k m] = outU k (l ++ m) := by
  rcases use_cases k with ⟨q, hu⟩ | ⟨q, hu⟩ | ⟨q, hu⟩ | ⟨q, hu⟩ | ⟨q, hu⟩ | ⟨q, hu⟩
  · have e : ∀ l, outU k l = denies (seenL l) := fun l => by rw [outU, o1 hu]; rfl
    simp only [e]
    rw [denies_part, seen_append]
  · have e : ∀ l, outU k l = turnI (denies (turnS (seenL l))) := fun l => by rw [outU, o2 hu]; rfl
    simp only [e]
    have : seenL [turnI (denies (turnS (seenL l))), turnI (denies (turnS (seenL m)))] = turnS (seenL [denies (turnS (seenL l)), denies (turnS (seenL m))]) := seen_turn [denies (turnS (seenL l)), denies (turnS (seenL m))]
    rw [this, turnS_turnS, denies_part, seen_append, turn_join]
  all_goals omega
theorem outU_range {k : Int} {l : List Int} (h : k % 6 = 0 ∨ k % 6 = 1) : 0 ≤ outU k l ∧ outU k l ≤ 5 := by
  rcases use_cases k with ⟨q, hu⟩ | ⟨q, hu⟩ | ⟨q, hu⟩ | ⟨q, hu⟩ | ⟨q, hu⟩ | ⟨q, hu⟩
  · rw [outU, o1 hu]; exact denies_range _
  · rw [outU, o2 hu]; exact turn_range (denies_range _)
  all_goals omega

theorem CombineParts_ok {w0 : World} {k at_ : Int} {v : Value} {l : List UInt8} (h0 : 0 ≤ k) (_ : k ≤ 255) (a0 : 0 ≤ at_) (a255 : at_ ≤ 255) (hr : Rd w0 [] v l.length (bcells l)) :
    FnO Try.prog w0 7 [.int .u8 k, v, .int .u8 at_] [] (fun u _ => u = .bool true) := by
  obtain ⟨a, c, rfl⟩ := hr.lit
  refine FnO.intro (n := 74) Try.func7 rfl rfl rfl ?_
  have hal := ans_length l
  refine J.seq ?_
  refine J.region ?_
  refine JL.pure rfl rfl (OpP.assign rfl) ?_
  refine JL.nil ?_
  refine J.seq ?_
  refine J.seq ?_
  refine J.region ?_
  refine JL.step rfl rfl (OpW.call (first := []) (captured := []) inferInstance rfl rfl awake_ok) ?_; rintro r18 _ ⟨rfl, rfl⟩
  refine JL.pure rfl rfl (OpP.notB rfl) ?_
  refine JL.pure rfl rfl (OpP.move rfl) ?_
  refine JL.pure rfl rfl (OpP.move rfl) ?_
  refine JL.pure rfl rfl (OpP.len rfl rfl) ?_
  refine JL.dec rfl rfl (OpP.gtr rfl rfl) (fun h23 => ?_) (fun h23 => ?_)
  focus
    refine JL.pure rfl rfl (OpP.pickF rfl rfl) ?_
    refine JL.nil ?_
    refine J.condT rfl ?_
    refine J.seq ?_
    refine J.region ?_
    refine JL.step rfl rfl (OpW.call (first := []) (captured := []) inferInstance rfl rfl awake_ok) ?_; rintro r25 _ ⟨rfl, rfl⟩
    refine JL.pure rfl rfl (OpP.assign rfl) ?_
    refine JL.nil ?_
    refine J.ret1 rfl rfl ?_
  rotate_left 1
  focus
    refine JL.pure rfl rfl (OpP.pickF rfl rfl) ?_
    refine JL.nil ?_
    refine J.condF rfl ?_
    refine J.skip ?_
    refine J.seq ?_
    refine J.region ?_
    refine JL.pure rfl rfl (OpP.move rfl) ?_
    refine JL.step rfl rfl (OpW.call (first := []) (captured := []) inferInstance rfl rfl (answers_ok hr.ao (by omega))) ?_; rintro r27 _ rfl
    refine JL.lit .head fun ar27 cr27 er27 => ?_; subst er27
    refine JL.pure rfl rfl (OpP.assign rfl) ?_
    refine JL.nil ?_
    refine J.seq ?_
    refine J.region ?_
    refine JL.pure rfl rfl (OpP.move rfl) ?_
    refine JL.pure rfl rfl (OpP.convI64 rfl (by omega) (by omega)) ?_
    refine JL.pure rfl rfl (OpP.move rfl) ?_
    refine JL.pure rfl rfl (OpP.len rfl rfl) ?_
    refine JL.pure rfl rfl (OpP.addI rfl rfl (by omega) (by omega)) ?_
    refine JL.pure rfl rfl (OpP.remI rfl rfl (by omega) (by omega)) ?_
    refine JL.pure rfl rfl (OpP.assign rfl) ?_
    refine JL.nil ?_
  rotate_left 1
  · rfl
  generalize hi : (at_ % (↑l.length + 1)) = i0
  have hi0 : 0 ≤ i0 := by rw [← hi]; exact Int.emod_nonneg _ (by omega)
  have hi1 : i0 < ↑l.length + 1 := by rw [← hi]; exact Int.emod_lt_of_pos _ (by omega)
  obtain ⟨i, rfl⟩ := Int.eq_ofNat_of_zero_le hi0
  have hil : i ≤ l.length := by omega
  have hv := ans_valid (l := l)
  have hv1 : ∀ x ∈ (ans l).take i, 0 ≤ x ∧ x ≤ 5 := fun x hx => hv x (List.mem_of_mem_take hx)
  have hv2 : ∀ x ∈ (ans l).drop i, 0 ≤ x ∧ x ≤ 5 := fun x hx => hv x (List.mem_of_mem_drop hx)
  have hk2 : 0 ≤ k % 2 := by omega
  have hk6 : (k % 2) % 6 = 0 ∨ (k % 2) % 6 = 1 := by omega
  have hou : outU (k % 2) [outU (k % 2) ((ans l).take i), outU (k % 2) ((ans l).drop i)] = outU (k % 2) (ans l) := by rw [outU_part _ _ hk6, List.take_append_drop]
  have hv3 : ∀ x ∈ [outU (k % 2) ((ans l).take i), outU (k % 2) ((ans l).drop i)], 0 ≤ x ∧ x ≤ 5 := by
    intro x hx
    simp only [List.mem_cons, List.not_mem_nil, or_false] at hx
    rcases hx with rfl | rfl <;> exact outU_range hk6
  refine J.ownCases .head (fun e1 e2 e3 => ?_) (fun g p e1 hc => ?_)
  · have hln : l = [] := List.eq_nil_of_length_eq_zero e2
    subst e1 e3
    subst hln
    have hou2 : outU (k % 2) [outU (k % 2) [], outU (k % 2) []] = outU (k % 2) [] := outU_part [] [] hk6
    have hv4 : ∀ x ∈ [outU (k % 2) [], outU (k % 2) []], 0 ≤ x ∧ x ≤ 5 := by
      intro x hx
      simp only [List.mem_cons, List.not_mem_nil, or_false] at hx
      rcases hx with rfl | rfl <;> exact outU_range hk6
    refine J.seq ?_
    refine J.region ?_
    refine JL.pure rfl rfl (OpP.move rfl) ?_
    refine JL.pure rfl rfl (OpP.remI rfl rfl (by omega) (by omega)) ?_
    refine JL.step rfl rfl (OpW.call (first := []) (captured := []) inferInstance rfl rfl (use_ok hk2)) ?_; rintro r36 _ ⟨rfl, rfl⟩
    refine JL.pure rfl rfl (OpP.assign rfl) ?_
    refine JL.nil ?_
    refine J.seq ?_
    refine J.region ?_
    refine JL.pure rfl rfl (OpP.move rfl) ?_
    refine JL.pure rfl rfl (OpP.move rfl) ?_
    refine JL.pure rfl rfl (OpP.move rfl) ?_
    refine JL.pure rfl rfl (OpP.sliceNilTo rfl rfl (by omega)) ?_
    refine JL.step rfl rfl (OpW.call (first := []) (captured := []) inferInstance rfl rfl (CombineV_ok (k := k % 2) (cs := []) [] (Rd.o (.inl ⟨_, _, rfl, rfl, rfl⟩)) rfl rfl (by decide) (by simp))) ?_; rintro r42 _ ⟨rfl, rfl⟩
    refine JL.pure rfl rfl (OpP.move rfl) ?_
    refine JL.pure rfl rfl (OpP.extract rfl rfl) ?_
    refine JL.pure rfl rfl (OpP.extract rfl rfl) ?_
    refine JL.pure rfl rfl (OpP.assign rfl) ?_
    refine JL.pure rfl rfl (OpP.assign rfl) ?_
    refine JL.nil ?_
    refine J.seq ?_
    refine J.region ?_
    refine JL.pure rfl rfl (OpP.move rfl) ?_
    refine JL.pure rfl rfl (OpP.move rfl) ?_
    refine JL.pure rfl rfl (OpP.move rfl) ?_
    refine JL.pure rfl rfl (OpP.sliceNilFrom rfl rfl (by omega)) ?_
    refine JL.step rfl rfl (OpW.call (first := []) (captured := []) inferInstance rfl rfl (CombineV_ok (k := k % 2) (cs := []) [] (Rd.o (.inl ⟨_, _, rfl, rfl, rfl⟩)) rfl rfl (by decide) (by simp))) ?_; rintro r50 _ ⟨rfl, rfl⟩
    refine JL.pure rfl rfl (OpP.move rfl) ?_
    refine JL.pure rfl rfl (OpP.extract rfl rfl) ?_
    refine JL.pure rfl rfl (OpP.extract rfl rfl) ?_
    refine JL.pure rfl rfl (OpP.assign rfl) ?_
    refine JL.pure rfl rfl (OpP.assign rfl) ?_
    refine JL.nil ?_
    refine J.seq ?_
    refine J.region ?_
    refine JL.pure rfl rfl (OpP.move rfl) ?_
    refine JL.pure rfl rfl (OpP.move rfl) ?_
    refine JL.pure rfl rfl (OpP.move rfl) ?_
    refine JL.mem rfl rfl (by apply OpM.buildSlice (by rfl) rfl (by rfl); (repeat (first | exact Fills.nil | (apply Fills.cons rfl rfl rfl; (case' hs => ((repeat (first | exact Spl.nil | apply Spl.here | apply Spl.there)); done)))))) ?_; rintro _ _ ⟨b57, rfl, rfl⟩
    refine JL.step rfl rfl (OpW.call (first := []) (captured := []) inferInstance rfl rfl (CombineV_ok [outU (k % 2) [], outU (k % 2) []] (RdO.ofRow .head (by decide)) rfl rfl (by decide) hv4)) ?_; rintro r58 _ ⟨rfl, rfl⟩
    refine JL.pure rfl rfl (OpP.move rfl) ?_
    refine JL.pure rfl rfl (OpP.extract rfl rfl) ?_
    refine JL.pure rfl rfl (OpP.extract rfl rfl) ?_
    refine JL.pure rfl rfl (OpP.assign rfl) ?_
    refine JL.pure rfl rfl (OpP.assign rfl) ?_
    refine JL.nil ?_
    refine J.seq ?_
    refine J.region ?_
    refine JL.pure rfl rfl (OpP.move rfl) ?_
    refine JL.pure rfl rfl (OpP.move rfl) ?_
    refine JL.step rfl rfl (OpW.call (first := []) (captured := []) inferInstance rfl rfl (CombineV_ok (k := k % 2) (cs := []) [] (Rd.o (.inl ⟨_, _, rfl, rfl, rfl⟩)) rfl rfl (by decide) (by simp))) ?_; rintro r64 _ ⟨rfl, rfl⟩
    refine JL.pure rfl rfl (OpP.move rfl) ?_
    refine JL.pure rfl rfl (OpP.extract rfl rfl) ?_
    refine JL.pure rfl rfl (OpP.extract rfl rfl) ?_
    refine JL.pure rfl rfl (OpP.assign rfl) ?_
    refine JL.pure rfl rfl (OpP.assign rfl) ?_
    refine JL.nil ?_
    refine J.seq ?_
    refine J.region ?_
    refine JL.pure rfl rfl (OpP.move rfl) ?_
    refine JL.decT rfl rfl (OpP.eql rfl rfl) (by omega) ?_
    refine JL.pure rfl rfl (OpP.move rfl) ?_
    refine JL.pure rfl rfl (OpP.move rfl) ?_
    refine JL.pure rfl rfl (OpP.move rfl) ?_
    refine JL.decT rfl rfl (OpP.eql rfl rfl) (by omega) ?_
    refine JL.pure rfl rfl (OpP.pickT rfl rfl) ?_
    refine JL.pure rfl rfl (OpP.assign rfl) ?_
    refine JL.nil ?_
    refine J.ret1 rfl rfl ?_
    rfl
  · subst e1
    have hTo : RdO w0 [own 3 1 (.slice (some ⟨g, p, none⟩) l.length cr27) l.length (icells (ans l))] (.slice (some ⟨g, p, none⟩) i cr27) i (icells ((ans l).take i)) := by
      have := RdO.ownTo (w0 := w0) (l := [own 3 1 (.slice (some ⟨g, p, none⟩) l.length cr27) l.length (icells (ans l))]) (k := i) (c' := cr27) .head (by omega)
      rw [Nat.mul_one, icells, ← List.map_take] at this
      exact this
    have hFrom : RdO w0 [own 3 1 (.slice (some ⟨g, p, none⟩) l.length cr27) l.length (icells (ans l))] (.slice (some ⟨g, if cr27 = i then p else p + i * 1, none⟩) (l.length - i) (cr27 - i)) (l.length - i) (icells ((ans l).drop i)) := by
      have := RdO.ownFrom (w0 := w0) (l := [own 3 1 (.slice (some ⟨g, p, none⟩) l.length cr27) l.length (icells (ans l))]) (k := i) .head hil hc (by simp [hal])
      rw [icells, ← List.map_drop, Nat.mul_one] at this
      rw [Nat.mul_one]
      exact this
    refine J.seq ?_
    refine J.region ?_
    refine JL.pure rfl rfl (OpP.move rfl) ?_
    refine JL.pure rfl rfl (OpP.remI rfl rfl (by omega) (by omega)) ?_
    refine JL.step rfl rfl (OpW.call (first := []) (captured := []) inferInstance rfl rfl (use_ok hk2)) ?_; rintro r36 _ ⟨rfl, rfl⟩
    refine JL.pure rfl rfl (OpP.assign rfl) ?_
    refine JL.nil ?_
    refine J.seq ?_
    refine J.region ?_
    refine JL.pure rfl rfl (OpP.move rfl) ?_
    refine JL.pure rfl rfl (OpP.move rfl) ?_
    refine JL.pure rfl rfl (OpP.move rfl) ?_
    refine JL.pure rfl rfl (OpP.sliceTo _ rfl rfl rfl (by omega)) ?_
    refine JL.step rfl rfl (OpW.call (first := []) (captured := []) inferInstance rfl rfl (CombineU_ok (xs := (ans l).take i) hTo (by simp [hal]; omega) (by omega) hv1)) ?_; rintro r42 _ ⟨rfl, rfl⟩
    refine JL.pure rfl rfl (OpP.move rfl) ?_
    refine JL.pure rfl rfl (OpP.extract rfl rfl) ?_
    refine JL.pure rfl rfl (OpP.extract rfl rfl) ?_
    refine JL.pure rfl rfl (OpP.assign rfl) ?_
    refine JL.pure rfl rfl (OpP.assign rfl) ?_
    refine JL.nil ?_
    refine J.seq ?_
    refine J.region ?_
    refine JL.pure rfl rfl (OpP.move rfl) ?_
    refine JL.pure rfl rfl (OpP.move rfl) ?_
    refine JL.pure rfl rfl (OpP.move rfl) ?_
    refine JL.pure rfl rfl (OpP.sliceFrom _ rfl rfl rfl (by omega) (by omega)) ?_
    refine JL.step rfl rfl (OpW.call (first := []) (captured := []) inferInstance rfl rfl (CombineU_ok (xs := (ans l).drop i) hFrom (by simp [hal]) (by omega) hv2)) ?_; rintro r50 _ ⟨rfl, rfl⟩
    refine JL.pure rfl rfl (OpP.move rfl) ?_
    refine JL.pure rfl rfl (OpP.extract rfl rfl) ?_
    refine JL.pure rfl rfl (OpP.extract rfl rfl) ?_
    refine JL.pure rfl rfl (OpP.assign rfl) ?_
    refine JL.pure rfl rfl (OpP.assign rfl) ?_
    refine JL.nil ?_
    refine J.seq ?_
    refine J.region ?_
    refine JL.pure rfl rfl (OpP.move rfl) ?_
    refine JL.pure rfl rfl (OpP.move rfl) ?_
    refine JL.pure rfl rfl (OpP.move rfl) ?_
    refine JL.mem rfl rfl (by apply OpM.buildSlice (by rfl) rfl (by rfl); (repeat (first | exact Fills.nil | (apply Fills.cons rfl rfl rfl; (case' hs => ((repeat (first | exact Spl.nil | apply Spl.here | apply Spl.there)); done)))))) ?_; rintro _ _ ⟨b57, rfl, rfl⟩
    refine JL.step rfl rfl (OpW.call (first := []) (captured := []) inferInstance rfl rfl (CombineV_ok [outU (k % 2) ((ans l).take i), outU (k % 2) ((ans l).drop i)] (RdO.ofRow .head (by decide)) rfl rfl (by decide) hv3)) ?_; rintro r58 _ ⟨rfl, rfl⟩
    refine JL.pure rfl rfl (OpP.move rfl) ?_
    refine JL.pure rfl rfl (OpP.extract rfl rfl) ?_
    refine JL.pure rfl rfl (OpP.extract rfl rfl) ?_
    refine JL.pure rfl rfl (OpP.assign rfl) ?_
    refine JL.pure rfl rfl (OpP.assign rfl) ?_
    refine JL.nil ?_
    refine J.seq ?_
    refine J.region ?_
    refine JL.pure rfl rfl (OpP.move rfl) ?_
    refine JL.pure rfl rfl (OpP.move rfl) ?_
    refine JL.step rfl rfl (OpW.call (first := []) (captured := []) inferInstance rfl rfl (CombineU_ok (xs := ans l) (RdO.own (.tail .head)) hal.symm (by omega) hv)) ?_; rintro r64 _ ⟨rfl, rfl⟩
    refine JL.pure rfl rfl (OpP.move rfl) ?_
    refine JL.pure rfl rfl (OpP.extract rfl rfl) ?_
    refine JL.pure rfl rfl (OpP.extract rfl rfl) ?_
    refine JL.pure rfl rfl (OpP.assign rfl) ?_
    refine JL.pure rfl rfl (OpP.assign rfl) ?_
    refine JL.nil ?_
    refine J.seq ?_
    refine J.region ?_
    refine JL.pure rfl rfl (OpP.move rfl) ?_
    refine JL.decT rfl rfl (OpP.eql rfl rfl) (by omega) ?_
    refine JL.pure rfl rfl (OpP.move rfl) ?_
    refine JL.pure rfl rfl (OpP.move rfl) ?_
    refine JL.pure rfl rfl (OpP.move rfl) ?_
    refine JL.decT rfl rfl (OpP.eql rfl rfl) (by omega) ?_
    refine JL.pure rfl rfl (OpP.pickT rfl rfl) ?_
    refine JL.pure rfl rfl (OpP.assign rfl) ?_
    refine JL.nil ?_
    refine J.ret1 rfl rfl ?_
    rfl

def rot (X : List Int) (m : Nat) : List Int := X.drop m ++ X.take m
theorem rot_perm (X : List Int) (m : Nat) : (rot X m).Perm X := by
  have h := List.perm_append_comm (l₁ := X.drop m) (l₂ := X.take m)
  rw [List.take_append_drop] at h
  exact h
theorem rot_get {X : List Int} {f i : Nat} (hi : i < X.length) : (rot X (f % X.length))[i]? = X[(i + f) % X.length]? := by
  have hm : f % X.length < X.length := Nat.mod_lt _ (by omega)
  have e : (i + f) % X.length = (i + f % X.length) % X.length := by rw [Nat.add_mod, Nat.mod_eq_of_lt hi]
  rw [e]
  generalize f % X.length = m at hm
  unfold rot
  by_cases h : i < X.length - m
  · rw [List.getElem?_append_left (by simp; omega), List.getElem?_drop, Nat.mod_eq_of_lt (by omega), Nat.add_comm]
  · rw [List.getElem?_append_right (by simp; omega), List.length_drop, List.getElem?_take, if_pos (by omega), Nat.mod_eq_sub_mod (by omega), Nat.mod_eq_of_lt (by omega)]
    congr 1; omega
theorem CombineOrder_ok {w0 : World} {k fr : Int} {v : Value} {l : List UInt8} (h0 : 0 ≤ k) (_ : k ≤ 255) (a0 : 0 ≤ fr) (a255 : fr ≤ 255) (hr : Rd w0 [] v l.length (bcells l)) :
    FnO Try.prog w0 5 [.int .u8 k, v, .int .u8 fr] [] (fun u _ => u = .bool true) := by
  obtain ⟨a, c, rfl⟩ := hr.lit
  refine FnO.intro (n := 108) Try.func5 rfl rfl rfl ?_
  have hal := ans_length l
  refine J.seq ?_
  refine J.region ?_
  refine JL.pure rfl rfl (OpP.assign rfl) ?_
  refine JL.nil ?_
  refine J.seq ?_
  refine J.seq ?_
  refine J.region ?_
  refine JL.step rfl rfl (OpW.call (first := []) (captured := []) inferInstance rfl rfl awake_ok) ?_; rintro r17 _ ⟨rfl, rfl⟩
  refine JL.pure rfl rfl (OpP.notB rfl) ?_
  refine JL.pure rfl rfl (OpP.move rfl) ?_
  refine JL.pure rfl rfl (OpP.move rfl) ?_
  refine JL.pure rfl rfl (OpP.len rfl rfl) ?_
  refine JL.dec rfl rfl (OpP.gtr rfl rfl) (fun h22 => ?_) (fun h22 => ?_)
  focus
    refine JL.pure rfl rfl (OpP.pickF rfl rfl) ?_
    refine JL.pure rfl rfl (OpP.move rfl) ?_
    refine JL.skip rfl rfl ?_
    refine JL.skip rfl rfl ?_
    refine JL.skip rfl rfl ?_
    refine JL.pure rfl rfl (OpP.pickT rfl rfl) ?_
    refine JL.pure rfl rfl (OpP.move rfl) ?_
    refine JL.skip rfl rfl ?_
    refine JL.skip rfl rfl ?_
    refine JL.skip rfl rfl ?_
    refine JL.pure rfl rfl (OpP.pickT rfl rfl) ?_
    refine JL.nil ?_
    refine J.condT rfl ?_
    refine J.seq ?_
    refine J.region ?_
    refine JL.step rfl rfl (OpW.call (first := []) (captured := []) inferInstance rfl rfl awake_ok) ?_; rintro r34 _ ⟨rfl, rfl⟩
    refine JL.pure rfl rfl (OpP.assign rfl) ?_
    refine JL.nil ?_
    refine J.ret1 rfl rfl ?_
  rotate_left 1
  focus
    refine JL.pure rfl rfl (OpP.pickF rfl rfl) ?_
    refine JL.pure rfl rfl (OpP.move rfl) ?_
    refine JL.pure rfl rfl (OpP.move rfl) ?_
    refine JL.pure rfl rfl (OpP.len rfl rfl) ?_
    refine JL.dec rfl rfl (OpP.eql rfl rfl) (fun h27 => ?_) (fun h27 => ?_)
    focus
      refine JL.pure rfl rfl (OpP.pickF rfl rfl) ?_
      refine JL.pure rfl rfl (OpP.move rfl) ?_
      refine JL.skip rfl rfl ?_
      refine JL.skip rfl rfl ?_
      refine JL.skip rfl rfl ?_
      refine JL.pure rfl rfl (OpP.pickT rfl rfl) ?_
      refine JL.nil ?_
      refine J.condT rfl ?_
      refine J.seq ?_
      refine J.region ?_
      refine JL.step rfl rfl (OpW.call (first := []) (captured := []) inferInstance rfl rfl awake_ok) ?_; rintro r34 _ ⟨rfl, rfl⟩
      refine JL.pure rfl rfl (OpP.assign rfl) ?_
      refine JL.nil ?_
      refine J.ret1 rfl rfl ?_
    rotate_left 1
    focus
      refine JL.pure rfl rfl (OpP.pickF rfl rfl) ?_
      refine JL.pure rfl rfl (OpP.move rfl) ?_
      refine JL.pure rfl rfl (OpP.move rfl) ?_
      refine JL.pure rfl rfl (OpP.remI rfl rfl (by omega) (by omega)) ?_
      refine JL.dec rfl rfl (OpP.eql rfl rfl) (fun h32 => ?_) (fun h32 => ?_)
      focus
        refine JL.pure rfl rfl (OpP.pickF rfl rfl) ?_
        refine JL.nil ?_
        refine J.condT rfl ?_
        refine J.seq ?_
        refine J.region ?_
        refine JL.step rfl rfl (OpW.call (first := []) (captured := []) inferInstance rfl rfl awake_ok) ?_; rintro r34 _ ⟨rfl, rfl⟩
        refine JL.pure rfl rfl (OpP.assign rfl) ?_
        refine JL.nil ?_
        refine J.ret1 rfl rfl ?_
      rotate_left 1
      focus
        refine JL.pure rfl rfl (OpP.pickF rfl rfl) ?_
        refine JL.nil ?_
        refine J.condF rfl ?_
        refine J.skip ?_
        refine J.seq ?_
        refine J.region ?_
        refine JL.pure rfl rfl (OpP.move rfl) ?_
        refine JL.step rfl rfl (OpW.call (first := []) (captured := []) inferInstance rfl rfl (answers_ok hr.ao (by omega))) ?_; rintro r36 _ rfl
        refine JL.lit .head fun ar36 cr36 er36 => ?_; subst er36
        refine JL.pure rfl rfl (OpP.assign rfl) ?_
        refine JL.nil ?_
        refine J.seq ?_
        refine J.region ?_
        refine JL.pure rfl rfl (OpP.assign rfl) ?_
        refine JL.pure rfl rfl (OpP.assign rfl) ?_
        refine JL.nil ?_
        refine J.seq ?_
        refine J.seq ?_
        refine J.region ?_
        refine JL.pure rfl rfl (OpP.assign rfl) ?_
        refine JL.nil ?_
        refine J.block ?_
      rotate_left 1
    rotate_left 2
  rotate_left 3
  · rfl
  · rfl
  · rfl
  obtain ⟨f, rfl⟩ := Int.eq_ofNat_of_zero_le a0
  have hyl : (rot (ans l) (f % (ans l).length)).length = l.length := by rw [(rot_perm _ _).length_eq, hal]
  have hzl : (ans l).reverse.length = l.length := by rw [List.length_reverse, hal]
  refine J.loopI (fun x : Nat × Value × Value => l.length - x.1) (fun x => x.1 ≤ l.length) (fun x => [(10, .int .i64 (x.1 : Nat)), (9, x.2.2), (8, x.2.1), (7, .slice ar36 l.length cr36), (0, .int .u8 k), (2, .int .u8 (f : Nat))])
    (fun x => [own 3 1 x.2.1 x.1 (icells ((rot (ans l) (f % (ans l).length)).take x.1)), own 3 1 x.2.2 x.1 (icells ((ans l).reverse.take x.1)), own 3 1 (.slice ar36 l.length cr36) l.length (icells (ans l))]) (0, .slice none 0 0, .slice none 0 0) (Nat.zero_le _) (by repeat (first | exact SubEnv.nil | refine SubEnv.cons (by first | rfl | exact congrArg (fun z => some (Value.int .i64 z)) (by omega) | (simp; done)) ?_)) (fun _ h => Own.own_nil (Own.own_nil h)) (fun ⟨i, yv, zv⟩ hi back => ?_)
  dsimp only at hi back ⊢
  by_cases hlt : i < l.length
  · obtain ⟨x, hx⟩ : ∃ x, (rot (ans l) (f % (ans l).length))[i]? = some x := ⟨_, List.getElem?_eq_getElem (by omega)⟩
    obtain ⟨z, hz⟩ : ∃ z, (ans l).reverse[i]? = some z := ⟨_, List.getElem?_eq_getElem (by omega)⟩
    have hx1 := hx
    rw [rot_get (by omega), hal] at hx1
    have hz1 := hz
    rw [List.getElem?_reverse (by omega), hal] at hz1
    have hx' := icells_get hx1
    have hz' := icells_get hz1
    have hm1 : (0 : Int) ≤ ((i : Int) + (f : Int)) % (l.length : Int) := Int.emod_nonneg _ (by omega)
    have hm2 : ((i : Int) + (f : Int)) % (l.length : Int) < l.length := Int.emod_lt_of_pos _ (by omega)
    have hm3 : (((i : Int) + (f : Int)) % (l.length : Int)).toNat = (i + f) % l.length := by
      rw [← Int.natCast_add, ← Int.natCast_emod]; rfl
    have hm4 : ((l.length : Int) - 1 - (i : Int)).toNat = l.length - 1 - i := by omega
    refine J.lit .head fun ayv cyv eyv => ?_; subst eyv
    refine J.lit (.tail .head) fun azv czv ezv => ?_; subst ezv
    refine J.seq ?_
    refine J.seq ?_
    refine J.region ?_
    refine JL.pure rfl rfl (OpP.move rfl) ?_
    refine JL.pure rfl rfl (OpP.move rfl) ?_
    refine JL.pure rfl rfl (OpP.len rfl rfl) ?_
    refine JL.decT rfl rfl (OpP.lss rfl rfl) (by omega) ?_
    refine JL.nil ?_
    refine J.condT rfl ?_
    refine J.skip ?_
    refine J.seq ?_
    refine J.block ?_
    refine J.seq ?_
    refine J.region ?_
    refine JL.pure rfl rfl (OpP.move rfl) ?_
    refine JL.pure rfl rfl (OpP.move rfl) ?_
    refine JL.pure rfl rfl (OpP.move rfl) ?_
    refine JL.pure rfl rfl (OpP.move rfl) ?_
    refine JL.pure rfl rfl (OpP.convI64 rfl (by omega) (by omega)) ?_
    refine JL.pure rfl rfl (OpP.addI rfl rfl (by omega) (by omega)) ?_
    refine JL.pure rfl rfl (OpP.move rfl) ?_
    refine JL.pure rfl rfl (OpP.len rfl rfl) ?_
    refine JL.pure rfl rfl (OpP.remI rfl rfl (by omega) (by omega)) ?_
    refine JL.ownSome (.tail (.tail .head)) (by omega) fun gar36 par36 ear36 kar36 => ?_; subst ear36
    refine JL.pure rfl rfl (OpP.indexAddr rfl rfl (by omega) (by omega)) ?_
    refine JL.read rfl rfl (OpR.load1 rfl (by apply Cells.cell (hv := hx') (Cells.own (.tail (.tail .head))) (fun _ h => h); omega)) ?_
    refine JL.mem rfl rfl (by apply OpM.buildSlice (by rfl) rfl (by rfl); (repeat (first | exact Fills.nil | (apply Fills.cons rfl rfl rfl; (case' hs => ((repeat (first | exact Spl.nil | apply Spl.here | apply Spl.there)); done)))))) ?_; rintro _ _ ⟨b54, rfl, rfl⟩
    refine JL.f1 ?_; refine JL.mem rfl rfl (OpM.appendH rfl (.inl ⟨_, Sl.und inferInstance⟩) (by rfl) rfl rfl (RdO.src (RdO.ofRow (.tail .head) (by first | decide | omega)) (by first | assumption | (simp; done) | (simp; omega))) (one1 rfl) (by simp only [maxLen]; omega) (by omega)) ?_; rintro _ _ ⟨⟨a55, c55, rfl⟩, rfl⟩
    refine JL.pure rfl rfl (OpP.assign rfl) ?_
    refine JL.nil ?_
    refine J.region ?_
    refine JL.pure rfl rfl (OpP.move rfl) ?_
    refine JL.pure rfl rfl (OpP.move rfl) ?_
    refine JL.pure rfl rfl (OpP.move rfl) ?_
    refine JL.pure rfl rfl (OpP.len rfl rfl) ?_
    refine JL.pure rfl rfl (OpP.subI rfl rfl (by omega) (by omega)) ?_
    refine JL.pure rfl rfl (OpP.move rfl) ?_
    refine JL.pure rfl rfl (OpP.subI rfl rfl (by omega) (by omega)) ?_
    refine JL.pure rfl rfl (OpP.indexAddr rfl rfl (by omega) (by omega)) ?_
    refine JL.read rfl rfl (OpR.load1 rfl (by apply Cells.cell (hv := hz') (Cells.own (.tail (.tail (.tail .head)))) (fun _ h => h); omega)) ?_
    refine JL.mem rfl rfl (by apply OpM.buildSlice (by rfl) rfl (by rfl); (repeat (first | exact Fills.nil | (apply Fills.cons rfl rfl rfl; (case' hs => ((repeat (first | exact Spl.nil | apply Spl.here | apply Spl.there)); done)))))) ?_; rintro _ _ ⟨b65, rfl, rfl⟩
    refine JL.f3 ?_; refine JL.mem rfl rfl (OpM.appendH rfl (.inl ⟨_, Sl.und inferInstance⟩) (by rfl) rfl rfl (RdO.src (RdO.ofRow (.tail .head) (by first | decide | omega)) (by first | assumption | (simp; done) | (simp; omega))) (one1 rfl) (by simp only [maxLen]; omega) (by omega)) ?_; rintro _ _ ⟨⟨a66, c66, rfl⟩, rfl⟩
    refine JL.pure rfl rfl (OpP.assign rfl) ?_
    refine JL.nil ?_
    refine J.inBlock ?_
    refine J.region ?_
    refine JL.pure rfl rfl (OpP.move rfl) ?_
    refine JL.pure rfl rfl (OpP.addI rfl rfl (by omega) (by omega)) ?_
    refine JL.pure rfl rfl (OpP.assign rfl) ?_
    refine JL.nil ?_
    have e1 : icells ((rot (ans l) (f % (ans l).length)).take (i + 1)) = icells ((rot (ans l) (f % (ans l).length)).take i) ++ [.int .i64 x] := by
      rw [List.take_add_one, hx]; simp [icells]
    have e2 : icells ((ans l).reverse.take (i + 1)) = icells ((ans l).reverse.take i) ++ [.int .i64 z] := by
      rw [List.take_add_one, hz]; simp [icells]
    refine back (i + 1, _, _) (by dsimp only; omega) (by dsimp only; omega) (by repeat (first | exact SubEnv.nil | refine SubEnv.cons (by first | rfl | exact congrArg (fun z => some (Value.int .i64 z)) (by omega) | (simp; done)) ?_)) (fun w h => ?_)
    dsimp only
    rw [e1, e2]
    exact Own.pick (pre := [_, _, _, _, _]) [2, 0, 4] rfl h
  · have hil : i = l.length := by omega
    subst hil
    rw [List.take_of_length_le (by omega), List.take_of_length_le (by omega)]
    have hv := ans_valid (l := l)
    have hv2 : ∀ x ∈ rot (ans l) (f % (ans l).length), 0 ≤ x ∧ x ≤ 5 := fun x hx => hv x ((rot_perm _ _).mem_iff.1 hx)
    have hv3 : ∀ x ∈ (ans l).reverse, 0 ≤ x ∧ x ≤ 5 := fun x hx => hv x (List.mem_reverse.1 hx)
    have hk2 : k % 6 ≠ 2 := by assumption
    have q1 : outU k (ans l) = outU k (rot (ans l) (f % (ans l).length)) := outU_perm (rot_perm _ _).symm hk2
    have q2 : outU k (ans l) = outU k (ans l).reverse := outU_perm (List.reverse_perm _).symm hk2
    refine J.lit .head fun ayv cyv eyv => ?_; subst eyv
    refine J.lit (.tail .head) fun azv czv ezv => ?_; subst ezv
    refine J.seq ?_
    refine J.seq ?_
    refine J.region ?_
    refine JL.pure rfl rfl (OpP.move rfl) ?_
    refine JL.pure rfl rfl (OpP.move rfl) ?_
    refine JL.pure rfl rfl (OpP.len rfl rfl) ?_
    refine JL.decF rfl rfl (OpP.lss rfl rfl) (by omega) ?_
    refine JL.nil ?_
    refine J.condF rfl ?_
    refine J.exit rfl ?_
    refine J.seq ?_
    refine J.region ?_
    refine JL.pure rfl rfl (OpP.move rfl) ?_
    refine JL.step rfl rfl (OpW.call (first := []) (captured := []) inferInstance rfl rfl (use_ok h0)) ?_; rintro r69 _ ⟨rfl, rfl⟩
    refine JL.pure rfl rfl (OpP.move rfl) ?_
    refine JL.step rfl rfl (OpW.call (first := []) (captured := []) inferInstance rfl rfl (CombineU_ok (xs := ans l) (RdO.own (.tail (.tail .head))) hal.symm (by omega) hv)) ?_; rintro r71 _ ⟨rfl, rfl⟩
    refine JL.pure rfl rfl (OpP.move rfl) ?_
    refine JL.pure rfl rfl (OpP.extract rfl rfl) ?_
    refine JL.pure rfl rfl (OpP.extract rfl rfl) ?_
    refine JL.pure rfl rfl (OpP.assign rfl) ?_
    refine JL.pure rfl rfl (OpP.assign rfl) ?_
    refine JL.nil ?_
    refine J.seq ?_
    refine J.region ?_
    refine JL.pure rfl rfl (OpP.move rfl) ?_
    refine JL.step rfl rfl (OpW.call (first := []) (captured := []) inferInstance rfl rfl (use_ok h0)) ?_; rintro r76 _ ⟨rfl, rfl⟩
    refine JL.pure rfl rfl (OpP.move rfl) ?_
    refine JL.step rfl rfl (OpW.call (first := []) (captured := []) inferInstance rfl rfl (CombineU_ok (xs := rot (ans l) (f % (ans l).length)) (RdO.own .head) hyl.symm (by omega) hv2)) ?_; rintro r78 _ ⟨rfl, rfl⟩
    refine JL.pure rfl rfl (OpP.move rfl) ?_
    refine JL.pure rfl rfl (OpP.extract rfl rfl) ?_
    refine JL.pure rfl rfl (OpP.extract rfl rfl) ?_
    refine JL.pure rfl rfl (OpP.assign rfl) ?_
    refine JL.pure rfl rfl (OpP.assign rfl) ?_
    refine JL.nil ?_
    refine J.seq ?_
    refine J.region ?_
    refine JL.pure rfl rfl (OpP.move rfl) ?_
    refine JL.step rfl rfl (OpW.call (first := []) (captured := []) inferInstance rfl rfl (use_ok h0)) ?_; rintro r83 _ ⟨rfl, rfl⟩
    refine JL.pure rfl rfl (OpP.move rfl) ?_
    refine JL.step rfl rfl (OpW.call (first := []) (captured := []) inferInstance rfl rfl (CombineU_ok (xs := (ans l).reverse) (RdO.own (.tail .head)) hzl.symm (by omega) hv3)) ?_; rintro r85 _ ⟨rfl, rfl⟩
    refine JL.pure rfl rfl (OpP.move rfl) ?_
    refine JL.pure rfl rfl (OpP.extract rfl rfl) ?_
    refine JL.pure rfl rfl (OpP.extract rfl rfl) ?_
    refine JL.pure rfl rfl (OpP.assign rfl) ?_
    refine JL.pure rfl rfl (OpP.assign rfl) ?_
    refine JL.nil ?_
    refine J.seq ?_
    refine J.region ?_
    refine JL.pure rfl rfl (OpP.move rfl) ?_
    refine JL.decT rfl rfl (OpP.eql rfl rfl) (by omega) ?_
    refine JL.pure rfl rfl (OpP.move rfl) ?_
    refine JL.pure rfl rfl (OpP.move rfl) ?_
    refine JL.decT rfl rfl (OpP.eql rfl rfl) (by omega) ?_
    refine JL.pure rfl rfl (OpP.pickT rfl rfl) ?_
    refine JL.pure rfl rfl (OpP.move rfl) ?_
    refine JL.pure rfl rfl (OpP.move rfl) ?_
    refine JL.decT rfl rfl (OpP.eql rfl rfl) (by omega) ?_
    refine JL.pure rfl rfl (OpP.pickT rfl rfl) ?_
    refine JL.pure rfl rfl (OpP.move rfl) ?_
    refine JL.pure rfl rfl (OpP.move rfl) ?_
    refine JL.pure rfl rfl (OpP.move rfl) ?_
    refine JL.decT rfl rfl (OpP.eql rfl rfl) (by omega) ?_
    refine JL.pure rfl rfl (OpP.pickT rfl rfl) ?_
    refine JL.pure rfl rfl (OpP.move rfl) ?_
    refine JL.pure rfl rfl (OpP.move rfl) ?_
    refine JL.pure rfl rfl (OpP.move rfl) ?_
    refine JL.decT rfl rfl (OpP.eql rfl rfl) (by omega) ?_
    refine JL.pure rfl rfl (OpP.pickT rfl rfl) ?_
    refine JL.pure rfl rfl (OpP.assign rfl) ?_
    refine JL.nil ?_
    refine J.ret1 rfl rfl ?_
    rfl
end Go.Proofs.C
