/- A text of the proof of a statement about the given program: its part CComb7. No person has read it. -/
import Derived.Test.YtaodplndajeckaaCComb6
import Derived.Test.YtaodplndajeckaaJ20
-- seat c
namespace Go.Proofs.C
open Go Go.Gp Go.RowKit

/-! Answers in any order; none between; part by part. -/
theorem denies_congr {s t : Sn} (e1 : s.b1 = t.b1) (e2 : s.b2 = t.b2) (e3 : s.b3 = t.b3) (e4 : s.b4 = t.b4) (e5 : s.b5 = t.b5) : denies s = denies t ∧ denies (turnS s) = denies (turnS t) := by
  obtain ⟨s0, s1, s2, s3, s4, s5⟩ := s
  obtain ⟨t0, t1, t2, t3, t4, t5⟩ := t
  dsimp only at e1 e2 e3 e4 e5
  subst e1 e2 e3 e4 e5
  exact ⟨rfl, rfl⟩
theorem seen_perm {l m : List Int} (h : ∀ x : Int, x ≠ 0 → (x ∈ l ↔ x ∈ m)) : denies (seenL l) = denies (seenL m) ∧ denies (turnS (seenL l)) = denies (turnS (seenL m)) :=
  denies_congr (decide_eq_decide.2 (h 1 (by decide))) (decide_eq_decide.2 (h 2 (by decide))) (decide_eq_decide.2 (h 3 (by decide))) (decide_eq_decide.2 (h 4 (by decide))) (decide_eq_decide.2 (h 5 (by decide)))
theorem CombineV_ok {w0 : World} {F : List HProp} {k : Int} {v : Value} {n : Nat} {cs : List Value} (xs : List Int) (hr : RdO w0 F v n cs) (hcs : cs = icells xs) (hn : n = xs.length) (hl : n ≤ 1000) (hv : ∀ x ∈ xs, 0 ≤ x ∧ x ≤ 5) :
    FnO Try.prog w0 16 [.string (useS k), v] F (fun r l' => r = .tuple #[.int .i64 (outU k xs), .int .i64 0] ∧ l' = F) := by
  subst hcs; exact CombineU_ok hr hn hl hv
theorem outU_same {k : Int} {l m : List Int} (h : ∀ x : Int, x ≠ 0 → (x ∈ l ↔ x ∈ m)) (hf : k % 6 = 2 → firstI l = firstI m) (ho : onlyI l = onlyI m) : outU k l = outU k m := by
  obtain ⟨h1, h2⟩ := seen_perm h
  have m1 := h 1 (by decide)
  have m2 := h 2 (by decide)
  rcases use_cases k with ⟨q, hu⟩ | ⟨q, hu⟩ | ⟨q, hu⟩ | ⟨q, hu⟩ | ⟨q, hu⟩ | ⟨q, hu⟩
  · rw [outU, outU, o1 hu, o1 hu, h1]
  · rw [outU, outU, o2 hu, o2 hu, h2]
  · rw [outU, outU, o3 hu, o3 hu, hf q]
  · rw [outU, outU, o4 hu, o4 hu, ho]
  · rw [outU, outU, o5 hu, o5 hu]; simp only [decide_eq_decide.2 m1]
  · rw [outU, outU, o6 hu, o6 hu]; simp only [decide_eq_decide.2 m2]
theorem only_perm {l m : List Int} (h : l.Perm m) : onlyI l = onlyI m := by
  have hp : (nz l).Perm (nz m) := h.filter _
  unfold onlyI
  cases q : nz l with
  | nil => rw [q] at hp; rw [hp.nil_eq]
  | cons x t =>
    cases t with
    | nil => rw [q] at hp; rw [List.singleton_perm.1 hp]
    | cons y t =>
      rw [q] at hp
      have hl := hp.length_eq
      rcases hm : nz m with _ | ⟨a, _ | ⟨b, t'⟩⟩
      · rw [hm] at hl; simp at hl
      · rw [hm] at hl; simp at hl
      · rfl
theorem outU_perm {k : Int} {l m : List Int} (h : l.Perm m) (hk : k % 6 ≠ 2) : outU k l = outU k m := outU_same (fun _ _ => h.mem_iff) (fun q => absurd q hk) (only_perm h)

theorem outU_none {k : Int} {l m : List Int} : outU k (l ++ [0] ++ m) = outU k (l ++ m) := by
  have e : nz (l ++ [0] ++ m) = nz (l ++ m) := by simp [nz, List.filter_append]
  refine outU_same (fun x hx => by simp [hx]) (fun _ => by rw [firstI, e]; rfl) (by unfold onlyI; rw [e])
def tab (k : Int) : Int := if k % 6 = 4 then 2 else if k % 6 = 5 then 1 else 0
theorem outU_nil (k : Int) : outU k [] = tab k := by
  unfold tab
  rcases use_cases k with ⟨q, hu⟩ | ⟨q, hu⟩ | ⟨q, hu⟩ | ⟨q, hu⟩ | ⟨q, hu⟩ | ⟨q, hu⟩
  · rw [outU, o1 hu, q]; rfl
  · rw [outU, o2 hu, q]; rfl
  · rw [outU, o3 hu, q]; rfl
  · rw [outU, o4 hu, q]; rfl
  · rw [outU, o5 hu, q]; rfl
  · rw [outU, o6 hu, q]; rfl

theorem CombineNone_ok {w0 : World} {k at_ : Int} {v : Value} {l : List UInt8} (h0 : 0 ≤ k) (_ : k ≤ 255) (a0 : 0 ≤ at_) (a255 : at_ ≤ 255) (hr : Rd w0 [] v l.length (bcells l)) :
    FnO Try.prog w0 6 [.int .u8 k, v, .int .u8 at_] [] (fun u _ => u = .bool true) := by
  obtain ⟨a, c, rfl⟩ := hr.lit
  refine FnO.intro (n := 80) Try.func6 rfl rfl rfl ?_
  have hal := ans_length l
  refine J.seq ?_
  refine J.region ?_
  refine JL.pure rfl rfl (OpP.assign rfl) ?_
  refine JL.nil ?_
  refine J.seq ?_
  refine J.seq ?_
  refine J.region ?_
  refine JL.step rfl rfl (OpW.call (first := []) (captured := []) inferInstance rfl rfl awake_ok) ?_; rintro r16 _ ⟨rfl, rfl⟩
  refine JL.pure rfl rfl (OpP.notB rfl) ?_
  refine JL.pure rfl rfl (OpP.move rfl) ?_
  refine JL.pure rfl rfl (OpP.move rfl) ?_
  refine JL.pure rfl rfl (OpP.len rfl rfl) ?_
  refine JL.dec rfl rfl (OpP.gtr rfl rfl) (fun h21 => ?_) (fun h21 => ?_)
  focus
    refine JL.pure rfl rfl (OpP.pickF rfl rfl) ?_
    refine JL.nil ?_
    refine J.condT rfl ?_
    refine J.seq ?_
    refine J.region ?_
    refine JL.step rfl rfl (OpW.call (first := []) (captured := []) inferInstance rfl rfl awake_ok) ?_; rintro r23 _ ⟨rfl, rfl⟩
    refine JL.pure rfl rfl (OpP.assign rfl) ?_
    refine JL.nil ?_
    refine J.ret1 rfl rfl ?_
  rotate_left 1
  focus
    refine JL.pure rfl rfl (OpP.pickF rfl rfl) ?_
    refine JL.nil ?_
    refine J.condF rfl ?_
    refine J.skip ?_
    refine J.seq ?_
    refine J.region ?_
    refine JL.pure rfl rfl (OpP.move rfl) ?_
    refine JL.step rfl rfl (OpW.call (first := []) (captured := []) inferInstance rfl rfl (answers_ok hr.ao (by omega))) ?_; rintro r25 _ rfl
    refine JL.lit .head fun ar25 cr25 er25 => ?_; subst er25
    refine JL.pure rfl rfl (OpP.assign rfl) ?_
    refine JL.nil ?_
    refine J.seq ?_
    refine J.region ?_
    refine JL.pure rfl rfl (OpP.move rfl) ?_
    refine JL.pure rfl rfl (OpP.convI64 rfl (by omega) (by omega)) ?_
    refine JL.pure rfl rfl (OpP.move rfl) ?_
    refine JL.pure rfl rfl (OpP.len rfl rfl) ?_
    refine JL.pure rfl rfl (OpP.addI rfl rfl (by omega) (by omega)) ?_
    refine JL.pure rfl rfl (OpP.remI rfl rfl (by omega) (by omega)) ?_
    refine JL.pure rfl rfl (OpP.assign rfl) ?_
    refine JL.nil ?_
  rotate_left 1
  · rfl
  generalize hi : (at_ % (↑l.length + 1)) = i0
  have hi0 : 0 ≤ i0 := by rw [← hi]; exact Int.emod_nonneg _ (by omega)
  have hi1 : i0 < ↑l.length + 1 := by rw [← hi]; exact Int.emod_lt_of_pos _ (by omega)
  obtain ⟨i, rfl⟩ := Int.eq_ofNat_of_zero_le hi0
  have hil : i ≤ l.length := by omega
  have hv := ans_valid (l := l)
  have hvn : ∀ x ∈ (ans l).take i ++ [0] ++ (ans l).drop i, 0 ≤ x ∧ x ≤ 5 := by
    intro x hx
    simp only [List.append_assoc, List.mem_append, List.mem_singleton] at hx
    rcases hx with h | rfl | h
    · exact hv x (List.mem_of_mem_take h)
    · decide
    · exact hv x (List.mem_of_mem_drop h)
  have hou : outU k ((ans l).take i ++ [0] ++ (ans l).drop i) = outU k (ans l) := by rw [outU_none, List.take_append_drop]
  have hix : [Value.int .i64 0, .int .i64 0, .int .i64 0, .int .i64 0, .int .i64 2, .int .i64 1][(k % 6).toNat]? = some (.int .i64 (tab k)) := by
    have : k % 6 = 0 ∨ k % 6 = 1 ∨ k % 6 = 2 ∨ k % 6 = 3 ∨ k % 6 = 4 ∨ k % 6 = 5 := by omega
    unfold tab
    rcases this with h | h | h | h | h | h <;> rw [h] <;> rfl
  have hnil : ∀ {F : List HProp}, FnO Try.prog w0 16 [.string (useS k), .slice none 0 0] F (fun r l' => r = .tuple #[.int .i64 (tab k), .int .i64 0] ∧ l' = F) := by
    intro F
    rw [← outU_nil]
    exact CombineU_ok (xs := []) (Rd.o (.inl ⟨_, _, rfl, rfl, rfl⟩)) rfl (by decide) (by simp)
  refine J.ownCases .head (fun e1 e2 e3 => ?_) (fun g p e1 hc => ?_)
  · have hln : l = [] := List.eq_nil_of_length_eq_zero e2
    subst e1 e3
    subst hln
    have hou' : tab k = outU k [0] := by rw [← outU_nil]; exact (outU_none (k := k) (l := []) (m := [])).symm
    refine J.seq ?_
    refine J.region ?_
    refine JL.mem rfl rfl (by apply OpM.buildSlice (by rfl) rfl (by rfl); (repeat (first | exact Fills.nil | (apply Fills.cons rfl rfl rfl; (case' hs => ((repeat (first | exact Spl.nil | apply Spl.here | apply Spl.there)); done)))))) ?_; rintro _ _ ⟨b32, rfl, rfl⟩
    refine JL.pure rfl rfl (OpP.move rfl) ?_
    refine JL.pure rfl rfl (OpP.move rfl) ?_
    refine JL.pure rfl rfl (OpP.sliceNilTo rfl rfl (by omega)) ?_
    refine JL.ownRow (n := 0) (sz := 1) (by decide) rfl ?_
    refine JL.mem rfl rfl (OpM.appendH0 rfl rfl (.inl ⟨_, Sl.und inferInstance⟩) (by rfl) rfl rfl Src.nil (fun _ h => nomatch h) (by simp only [maxLen]; omega) (by omega)) ?_; rintro _ _ ⟨⟨a36, c36, rfl⟩, rfl⟩
    refine JL.pure rfl rfl (OpP.assign rfl) ?_
    refine JL.nil ?_
    refine J.seq ?_
    refine J.region ?_
    refine JL.pure rfl rfl (OpP.move rfl) ?_
    refine JL.mem rfl rfl (by apply OpM.buildSlice (by rfl) rfl (by rfl); (repeat (first | exact Fills.nil | (apply Fills.cons rfl rfl rfl; (case' hs => ((repeat (first | exact Spl.nil | apply Spl.here | apply Spl.there)); done)))))) ?_; rintro _ _ ⟨b38, rfl, rfl⟩
    refine JL.f1 ?_; refine JL.mem rfl rfl (OpM.appendH0 rfl rfl (.inl ⟨_, Sl.und inferInstance⟩) (by rfl) rfl rfl (RdO.src (RdO.ofRow (.tail .head) (by first | decide | omega)) (by first | assumption | (simp; done) | (simp; omega))) (one1 rfl) (by simp only [maxLen]; omega) (by omega)) ?_; rintro _ _ ⟨⟨a39, c39, rfl⟩, rfl⟩
    refine JL.pure rfl rfl (OpP.assign rfl) ?_
    refine JL.nil ?_
    refine J.seq ?_
    refine J.region ?_
    refine JL.pure rfl rfl (OpP.move rfl) ?_
    refine JL.pure rfl rfl (OpP.move rfl) ?_
    refine JL.pure rfl rfl (OpP.move rfl) ?_
    refine JL.pure rfl rfl (OpP.sliceNilFrom rfl rfl (by omega)) ?_
    refine JL.mem rfl rfl (OpM.appendH rfl (.inl ⟨_, Sl.und inferInstance⟩) (by rfl) rfl rfl Src.nil (fun _ h => nomatch h) (by simp only [maxLen]; omega) (by omega)) ?_; rintro _ _ ⟨⟨a44, c44, rfl⟩, rfl⟩
    refine JL.pure rfl rfl (OpP.assign rfl) ?_
    refine JL.nil ?_
    refine J.seq ?_
    refine J.region ?_
    refine JL.pure rfl rfl (OpP.move rfl) ?_
    refine JL.step rfl rfl (OpW.call (first := []) (captured := []) inferInstance rfl rfl (use_ok h0)) ?_; rintro r47 _ ⟨rfl, rfl⟩
    refine JL.pure rfl rfl (OpP.move rfl) ?_
    refine JL.step rfl rfl (OpW.call (first := []) (captured := []) inferInstance rfl rfl hnil) ?_; rintro r49 _ ⟨rfl, rfl⟩
    refine JL.pure rfl rfl (OpP.move rfl) ?_
    refine JL.pure rfl rfl (OpP.extract rfl rfl) ?_
    refine JL.pure rfl rfl (OpP.extract rfl rfl) ?_
    refine JL.pure rfl rfl (OpP.assign rfl) ?_
    refine JL.pure rfl rfl (OpP.assign rfl) ?_
    refine JL.nil ?_
    refine J.seq ?_
    refine J.region ?_
    refine JL.pure rfl rfl (OpP.move rfl) ?_
    refine JL.step rfl rfl (OpW.call (first := []) (captured := []) inferInstance rfl rfl (use_ok h0)) ?_; rintro r54 _ ⟨rfl, rfl⟩
    refine JL.pure rfl rfl (OpP.move rfl) ?_
    refine JL.step rfl rfl (OpW.call (first := []) (captured := []) inferInstance rfl rfl (CombineV_ok [0] (RdO.own .head) rfl rfl (by decide) (by decide))) ?_; rintro r56 _ ⟨rfl, rfl⟩
    refine JL.pure rfl rfl (OpP.move rfl) ?_
    refine JL.pure rfl rfl (OpP.extract rfl rfl) ?_
    refine JL.pure rfl rfl (OpP.extract rfl rfl) ?_
    refine JL.pure rfl rfl (OpP.assign rfl) ?_
    refine JL.pure rfl rfl (OpP.assign rfl) ?_
    refine JL.nil ?_
    refine J.seq ?_
    refine J.region ?_
    refine JL.pure rfl rfl (OpP.move rfl) ?_
    refine JL.step rfl rfl (OpW.call (first := []) (captured := []) inferInstance rfl rfl (use_ok h0)) ?_; rintro r61 _ ⟨rfl, rfl⟩
    refine JL.step rfl rfl (OpW.call (first := []) (captured := []) inferInstance rfl rfl hnil) ?_; rintro r62 _ ⟨rfl, rfl⟩
    refine JL.pure rfl rfl (OpP.move rfl) ?_
    refine JL.pure rfl rfl (OpP.extract rfl rfl) ?_
    refine JL.pure rfl rfl (OpP.extract rfl rfl) ?_
    refine JL.pure rfl rfl (OpP.assign rfl) ?_
    refine JL.pure rfl rfl (OpP.assign rfl) ?_
    refine JL.nil ?_
    refine J.seq ?_
    refine J.region ?_
    refine JL.pure rfl rfl (OpP.move rfl) ?_
    refine JL.pure rfl rfl (OpP.move rfl) ?_
    refine JL.decT rfl rfl (OpP.eql rfl rfl) (by omega) ?_
    refine JL.pure rfl rfl (OpP.move rfl) ?_
    refine JL.pure rfl rfl (OpP.move rfl) ?_
    refine JL.decT rfl rfl (OpP.eql rfl rfl) (by omega) ?_
    refine JL.pure rfl rfl (OpP.pickT rfl rfl) ?_
    refine JL.pure rfl rfl (OpP.move rfl) ?_
    refine JL.pure rfl rfl (OpP.move rfl) ?_
    refine JL.pure rfl rfl (OpP.buildA rfl (by (repeat (first | exact Fills.nil | (apply Fills.cons rfl rfl rfl; (case' hs => ((repeat (first | exact Spl.nil | apply Spl.here | apply Spl.there)); done))))))) ?_
    refine JL.pure rfl rfl (OpP.move rfl) ?_
    refine JL.pure rfl rfl (OpP.remI rfl rfl (by omega) (by omega)) ?_
    refine JL.pure rfl rfl (OpP.indexArr1 rfl rfl (by omega) (by omega) (by assumption)) ?_
    refine JL.decT rfl rfl (OpP.eql rfl rfl) (by omega) ?_
    refine JL.pure rfl rfl (OpP.pickT rfl rfl) ?_
    refine JL.pure rfl rfl (OpP.assign rfl) ?_
    refine JL.nil ?_
    refine J.ret1 rfl rfl ?_
    rfl
  · subst e1
    have hTo : RdO w0 [own 3 1 (.slice (some ⟨g, p, none⟩) l.length cr25) l.length (icells (ans l))] (.slice (some ⟨g, p, none⟩) i cr25) i (icells ((ans l).take i)) := by
      have := RdO.ownTo (w0 := w0) (l := [own 3 1 (.slice (some ⟨g, p, none⟩) l.length cr25) l.length (icells (ans l))]) (k := i) (c' := cr25) .head (by omega)
      rw [Nat.mul_one, icells, ← List.map_take] at this
      exact this
    have hFrom : RdO w0 [own 3 1 (.slice (some ⟨g, p, none⟩) l.length cr25) l.length (icells (ans l))] (.slice (some ⟨g, if cr25 = i then p else p + i * 1, none⟩) (l.length - i) (cr25 - i)) (l.length - i) (icells ((ans l).drop i)) := by
      have := RdO.ownFrom (w0 := w0) (l := [own 3 1 (.slice (some ⟨g, p, none⟩) l.length cr25) l.length (icells (ans l))]) (k := i) .head hil hc (by simp [hal])
      rw [icells, ← List.map_drop, Nat.mul_one] at this
      rw [Nat.mul_one]
      exact this
    refine J.seq ?_
    refine J.region ?_
    refine JL.mem rfl rfl (by apply OpM.buildSlice (by rfl) rfl (by rfl); (repeat (first | exact Fills.nil | (apply Fills.cons rfl rfl rfl; (case' hs => ((repeat (first | exact Spl.nil | apply Spl.here | apply Spl.there)); done)))))) ?_; rintro _ _ ⟨b32, rfl, rfl⟩
    refine JL.pure rfl rfl (OpP.move rfl) ?_
    refine JL.pure rfl rfl (OpP.move rfl) ?_
    refine JL.pure rfl rfl (OpP.sliceTo _ rfl rfl rfl (by omega)) ?_
    refine JL.ownRow (n := 0) (sz := 1) (by decide) rfl ?_
    refine JL.mem rfl rfl (OpM.appendH0 rfl rfl (.inl ⟨_, Sl.und inferInstance⟩) (by rfl) rfl rfl (RdO.src (hTo.conv fun _ h => Own.pick (pre := [_, _]) [1] rfl h) (by first | assumption | (simp; done) | (simp; omega))) (by first | exact bcells_one _ | exact scells_one _ | exact icells_one _ | assumption) (by simp only [maxLen]; omega) (by omega)) ?_; rintro _ _ ⟨⟨a36, c36, rfl⟩, rfl⟩
    refine JL.pure rfl rfl (OpP.assign rfl) ?_
    refine JL.nil ?_
    refine J.seq ?_
    refine J.region ?_
    refine JL.pure rfl rfl (OpP.move rfl) ?_
    refine JL.mem rfl rfl (by apply OpM.buildSlice (by rfl) rfl (by rfl); (repeat (first | exact Fills.nil | (apply Fills.cons rfl rfl rfl; (case' hs => ((repeat (first | exact Spl.nil | apply Spl.here | apply Spl.there)); done)))))) ?_; rintro _ _ ⟨b38, rfl, rfl⟩
    refine JL.f1 ?_; refine JL.mem rfl rfl (OpM.appendH rfl (.inl ⟨_, Sl.und inferInstance⟩) (by rfl) rfl rfl (RdO.src (RdO.ofRow (.tail .head) (by first | decide | omega)) (by first | assumption | (simp; done) | (simp; omega))) (one1 rfl) (by simp only [maxLen]; omega) (by omega)) ?_; rintro _ _ ⟨⟨a39, c39, rfl⟩, rfl⟩
    refine JL.pure rfl rfl (OpP.assign rfl) ?_
    refine JL.nil ?_
    refine J.seq ?_
    refine J.region ?_
    refine JL.pure rfl rfl (OpP.move rfl) ?_
    refine JL.pure rfl rfl (OpP.move rfl) ?_
    refine JL.pure rfl rfl (OpP.move rfl) ?_
    refine JL.pure rfl rfl (OpP.sliceFrom _ rfl rfl rfl (by omega) (by omega)) ?_
    refine JL.mem rfl rfl (OpM.appendH rfl (.inl ⟨_, Sl.und inferInstance⟩) (by rfl) rfl rfl (RdO.src (hFrom.conv fun _ h => Own.pick (pre := [_, _, _]) [2] rfl h) (by first | assumption | (simp; done) | (simp; omega))) (by first | exact bcells_one _ | exact scells_one _ | exact icells_one _ | assumption) (by simp only [maxLen]; omega) (by omega)) ?_; rintro _ _ ⟨⟨a44, c44, rfl⟩, rfl⟩
    refine JL.pure rfl rfl (OpP.assign rfl) ?_
    refine JL.nil ?_
    refine J.seq ?_
    refine J.region ?_
    refine JL.pure rfl rfl (OpP.move rfl) ?_
    refine JL.step rfl rfl (OpW.call (first := []) (captured := []) inferInstance rfl rfl (use_ok h0)) ?_; rintro r47 _ ⟨rfl, rfl⟩
    refine JL.pure rfl rfl (OpP.move rfl) ?_
    refine JL.step rfl rfl (OpW.call (first := []) (captured := []) inferInstance rfl rfl (CombineU_ok (xs := ans l) (RdO.own (.tail (.tail .head))) hal.symm (by omega) hv)) ?_; rintro r49 _ ⟨rfl, rfl⟩
    refine JL.pure rfl rfl (OpP.move rfl) ?_
    refine JL.pure rfl rfl (OpP.extract rfl rfl) ?_
    refine JL.pure rfl rfl (OpP.extract rfl rfl) ?_
    refine JL.pure rfl rfl (OpP.assign rfl) ?_
    refine JL.pure rfl rfl (OpP.assign rfl) ?_
    refine JL.nil ?_
    refine J.seq ?_
    refine J.region ?_
    refine JL.pure rfl rfl (OpP.move rfl) ?_
    refine JL.step rfl rfl (OpW.call (first := []) (captured := []) inferInstance rfl rfl (use_ok h0)) ?_; rintro r54 _ ⟨rfl, rfl⟩
    refine JL.pure rfl rfl (OpP.move rfl) ?_
    refine JL.step rfl rfl (OpW.call (first := []) (captured := []) inferInstance rfl rfl (CombineV_ok ((ans l).take i ++ [0] ++ (ans l).drop i) (RdO.own .head) (by simp [icells]) (by simp [hal]; omega) (by omega) hvn)) ?_; rintro r56 _ ⟨rfl, rfl⟩
    refine JL.pure rfl rfl (OpP.move rfl) ?_
    refine JL.pure rfl rfl (OpP.extract rfl rfl) ?_
    refine JL.pure rfl rfl (OpP.extract rfl rfl) ?_
    refine JL.pure rfl rfl (OpP.assign rfl) ?_
    refine JL.pure rfl rfl (OpP.assign rfl) ?_
    refine JL.nil ?_
    refine J.seq ?_
    refine J.region ?_
    refine JL.pure rfl rfl (OpP.move rfl) ?_
    refine JL.step rfl rfl (OpW.call (first := []) (captured := []) inferInstance rfl rfl (use_ok h0)) ?_; rintro r61 _ ⟨rfl, rfl⟩
    refine JL.step rfl rfl (OpW.call (first := []) (captured := []) inferInstance rfl rfl hnil) ?_; rintro r62 _ ⟨rfl, rfl⟩
    refine JL.pure rfl rfl (OpP.move rfl) ?_
    refine JL.pure rfl rfl (OpP.extract rfl rfl) ?_
    refine JL.pure rfl rfl (OpP.extract rfl rfl) ?_
    refine JL.pure rfl rfl (OpP.assign rfl) ?_
    refine JL.pure rfl rfl (OpP.assign rfl) ?_
    refine JL.nil ?_
    refine J.seq ?_
    refine J.region ?_
    refine JL.pure rfl rfl (OpP.move rfl) ?_
    refine JL.pure rfl rfl (OpP.move rfl) ?_
    refine JL.decT rfl rfl (OpP.eql rfl rfl) (by omega) ?_
    refine JL.pure rfl rfl (OpP.move rfl) ?_
    refine JL.pure rfl rfl (OpP.move rfl) ?_
    refine JL.decT rfl rfl (OpP.eql rfl rfl) (by omega) ?_
    refine JL.pure rfl rfl (OpP.pickT rfl rfl) ?_
    refine JL.pure rfl rfl (OpP.move rfl) ?_
    refine JL.pure rfl rfl (OpP.move rfl) ?_
    refine JL.pure rfl rfl (OpP.buildA rfl (by (repeat (first | exact Fills.nil | (apply Fills.cons rfl rfl rfl; (case' hs => ((repeat (first | exact Spl.nil | apply Spl.here | apply Spl.there)); done))))))) ?_
    refine JL.pure rfl rfl (OpP.move rfl) ?_
    refine JL.pure rfl rfl (OpP.remI rfl rfl (by omega) (by omega)) ?_
    refine JL.pure rfl rfl (OpP.indexArr1 rfl rfl (by omega) (by omega) (by assumption)) ?_
    refine JL.decT rfl rfl (OpP.eql rfl rfl) (by omega) ?_
    refine JL.pure rfl rfl (OpP.pickT rfl rfl) ?_
    refine JL.pure rfl rfl (OpP.assign rfl) ?_
    refine JL.nil ?_
    refine J.ret1 rfl rfl ?_
    rfl
end Go.Proofs.C
