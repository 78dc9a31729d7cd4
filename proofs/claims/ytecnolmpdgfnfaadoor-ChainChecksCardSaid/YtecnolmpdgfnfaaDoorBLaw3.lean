/- A text of the proof of a statement about the given program: its part BLaw3. No person has read it. -/
import Derived.Test.YtecnolmpdgfnfaaDoorBLaw2
import Derived.Test.YtecnolmpdgfnfaaDoorJ25
-- seat b
namespace Go.Proofs.B
open Go Go.Gp Go.RowKit

/-- The function that says whether the program is awake. -/
def IsAwake (w0 : World) (f : Nat) : Prop := ∀ F : List HProp, FnO Tryd.prog w0 f [] F (fun v l' => v = .bool true ∧ l' = F)
theorem ShaCuts_ok {w0 : World} {b : List UInt8} {v : Value} {m : Int} {K : Ws} (hA : IsAwake w0 13) (hK : Tab w0 0 64 fun j => w32 (K j)) (h0 : 0 ≤ m) (h1 : m ≤ 65535) (hl : b.length ≤ 9223372036854775807) (hs : ShapeOf v b.length) (hr : RdO w0 [] v b.length (bcells b)) :
    FnO Tryd.prog w0 4 [v, .int .u16 m] [] (fun v _ => v = .bool true) := by
  refine FnO.rdF (fun _ h => h) hr fun hr0 => ?_
  obtain ⟨va, vc, rfl⟩ := hr0.lit
  refine FnO.intro (n := 51) Tryd.func4 rfl rfl rfl ?_
  by_cases hn : b.length ≤ 500
  · refine J.seq ?_
    refine J.region ?_
    refine JL.pure rfl rfl (OpP.assign rfl) ?_
    refine JL.nil ?_
    refine J.seq ?_
    refine J.seq ?_
    refine J.region ?_
    refine JL.step rfl rfl (OpW.call (first := []) (captured := []) inferInstance rfl rfl (hA _)) ?_; rintro r7 _ ⟨rfl, rfl⟩
    refine JL.pure rfl rfl (OpP.notB rfl) ?_
    refine JL.pure rfl rfl (OpP.move rfl) ?_
    refine JL.pure rfl rfl (OpP.move rfl) ?_
    refine JL.pure rfl rfl (OpP.len rfl rfl) ?_
    refine JL.decF rfl rfl (OpP.gtr rfl rfl) (by omega) ?_
    refine JL.pure rfl rfl (OpP.pickF rfl rfl) ?_
    refine JL.nil ?_
    refine J.condF rfl ?_
    refine J.skip ?_
    refine J.seq ?_
    refine J.region ?_
    refine JL.pure rfl rfl (OpP.move rfl) ?_
    refine JL.pure rfl rfl (OpP.convI64 rfl (by omega) (by omega)) ?_
    refine JL.pure rfl rfl (OpP.move rfl) ?_
    refine JL.pure rfl rfl (OpP.len rfl rfl) ?_
    refine JL.pure rfl rfl (OpP.addI rfl rfl (by omega) (by omega)) ?_
    refine JL.pure rfl rfl (OpP.remI rfl rfl (by first | omega | exact Int.natCast_nonneg _) (by omega)) ?_
    refine JL.pure rfl rfl (OpP.assign rfl) ?_
    refine JL.nil ?_
    have hk : ∃ k : Nat, m % ((b.length : Int) + 1) = (k : Int) ∧ k ≤ b.length := ⟨(m % ((b.length : Int) + 1)).toNat, by have := Int.emod_nonneg m (show (b.length : Int) + 1 ≠ 0 by omega); omega, by have := Int.emod_lt_of_pos m (show 0 < (b.length : Int) + 1 by omega); omega⟩
    obtain ⟨k, hk, hkl⟩ := hk
    rw [hk]
    obtain ⟨a1, c1, hs1, hr1⟩ := hs.to (P := Tryd.prog) (t := 29) hr hkl
    obtain ⟨a2, c2, hs2, hr2⟩ := hs.from (P := Tryd.prog) (t := 29) hr (by rw [bcells_length]; omega) hkl
    rw [Nat.mul_one, bcells_take] at hr1
    rw [Nat.mul_one, bcells_drop] at hr2
    have hl1 : (b.take k).length = k := by rw [List.length_take]; omega
    have hl2 : (b.drop k).length = b.length - k := List.length_drop
    have hb : b.take k ++ b.drop k = b := List.take_append_drop k b
    generalize b.take k = b1 at *
    generalize b.drop k = b2 at *
    have hs1' : SlTo Tryd.prog 29 (.slice va b.length vc) k (.slice a1 b1.length c1) := by rw [hl1]; exact hs1
    have hs2' : SlFrom Tryd.prog 29 (.slice va b.length vc) k (.slice a2 b2.length c2) := by rw [hl2]; exact hs2
    rw [← hl1] at hr1
    rw [← hl2] at hr2
    clear hs1 hs2
    have hc1 : ∀ x, cat [(x, b)] = b := fun x => List.append_nil _
    have hc2 : ∀ x y, cat [(x, b1), (y, b2)] = b := fun x y => by show b1 ++ (b2 ++ []) = b; rw [List.append_nil, hb]
    have hc3 : ∀ x y z, cat [(x, b1), (y, []), (z, b2)] = b := fun x y z => by show b1 ++ ([] ++ (b2 ++ [])) = b; rw [List.append_nil, List.nil_append, hb]
    have hn1 : ([] : List UInt8).length + (cat [(Value.bool true, b1), (Value.bool true, []), (Value.bool true, b2)]).length ≤ 1000000 := by rw [hc3, List.length_nil]; omega
    have hn2 : (cat [(Value.bool true, b)]).length ≤ 900000 := by rw [hc1]; omega
    have hn3 : (cat [(Value.bool true, b1), (Value.bool true, b2)]).length ≤ 900000 := by rw [hc2]; omega
    refine J.seq ?_
    refine J.region ?_
    refine JL.step rfl rfl (OpW.call (first := []) (captured := []) inferInstance rfl rfl (New0_ok (K := K))) ?_; rintro r21 _ ⟨g, ⟨rfl, rfl⟩⟩
    refine JL.pure rfl rfl (OpP.assign rfl) ?_
    refine JL.nil ?_
    refine J.seq ?_
    refine J.regionD [] (by kernel_rfl) ?_
    refine DL.pure (i := 0) (by kernel_rfl) (by kernel_rfl) rfl rfl rfl (OpP.move rfl) ?_
    refine DL.pure (i := 1) (by kernel_rfl) (by kernel_rfl) rfl rfl rfl (OpP.move rfl) ?_
    refine DL.pure (i := 2) (by kernel_rfl) (by kernel_rfl) rfl rfl rfl (OpP.move rfl) ?_
    refine DL.pure (i := 3) (by kernel_rfl) (by kernel_rfl) rfl rfl rfl ((SlTo.op (by assumption) rfl rfl)) ?_
    refine DL.pure (i := 4) (by kernel_rfl) (by kernel_rfl) rfl rfl rfl (OpP.move rfl) ?_
    refine DL.pure (i := 5) (by kernel_rfl) (by kernel_rfl) rfl rfl rfl (OpP.move rfl) ?_
    refine DL.pure (i := 6) (by kernel_rfl) (by kernel_rfl) rfl rfl rfl ((SlFrom.op (by assumption) rfl rfl)) ?_
    refine DL.only (i := 7) (by kernel_rfl) ?_
    refine DL1.stepF rfl rfl rfl (by kernel_rfl) (OpM.w (by apply OpM.buildSlice (by rfl) rfl (by rfl); (repeat (first | exact Fills.nil | (apply Fills.cons rfl rfl rfl; (case' hs => ((repeat (first | exact Spl.nil | apply Spl.here | apply Spl.there)); done))))))) ?_; rintro _ _ ⟨b29, rfl, rfl⟩
    refine DL.only (i := 8) (by kernel_rfl) ?_
    refine DL1.f2 ?_; refine DL1.f2 ?_; refine DL1.stepF rfl rfl rfl (by kernel_rfl) (by exact OpW.call (first := []) (captured := []) inferInstance rfl rfl (Write_ok (ps := [(_, b1), (_, []), (_, b2)]) hK (by exact hn1) (by first | assumption | omega | rfl | exact Nat.le_of_ble_eq_true rfl | (simp; omega)) (Parts.row3 .head (hr1.conv fun _ h => h.none) RdO.nilB (hr2.conv fun _ h => h.none) (Nat.le_refl _)))) ?_; rintro r30 _ ⟨s', rfl⟩
    refine DL.lit (.tail .head) fun as' cs' es' => ?_; subst es'
    refine DL.done (by kernel_rfl) ?_
    refine J.seq ?_
    refine J.regionD [] (by kernel_rfl) ?_
    refine DL.pure (i := 0) (by kernel_rfl) (by kernel_rfl) rfl rfl rfl (OpP.move rfl) ?_
    refine DL.pure (i := 3) (by kernel_rfl) (by kernel_rfl) rfl rfl rfl (OpP.move rfl) ?_
    refine DL.pure (i := 4) (by kernel_rfl) (by kernel_rfl) rfl rfl rfl (OpP.move rfl) ?_
    refine DL.pure (i := 5) (by kernel_rfl) (by kernel_rfl) rfl rfl rfl ((SlTo.op (by assumption) rfl rfl)) ?_
    refine DL.pure (i := 6) (by kernel_rfl) (by kernel_rfl) rfl rfl rfl (OpP.move rfl) ?_
    refine DL.pure (i := 7) (by kernel_rfl) (by kernel_rfl) rfl rfl rfl (OpP.move rfl) ?_
    refine DL.pure (i := 8) (by kernel_rfl) (by kernel_rfl) rfl rfl rfl ((SlFrom.op (by assumption) rfl rfl)) ?_
    refine DL.two (i := 1) (j := 9) (by kernel_rfl) ?_ ?_
    focus
      refine DL1.stepF rfl rfl rfl (by kernel_rfl) (OpM.w (by apply OpM.buildSlice (by rfl) rfl (by rfl); (repeat (first | exact Fills.nil | (apply Fills.cons rfl rfl rfl; (case' hs => ((repeat (first | exact Spl.nil | apply Spl.here | apply Spl.there)); done))))))) ?_; rintro _ _ ⟨b32, rfl, rfl⟩
      refine DL.two (i := 2) (j := 9) (by kernel_rfl) ?_ ?_
      focus
        refine DL1.stepF rfl rfl rfl (by kernel_rfl) (by exact OpW.call (first := []) (captured := []) inferInstance rfl rfl (Of_ok (ps := [(_, b)]) hK (by exact hn2) (by first | assumption | omega | rfl | exact Nat.le_of_ble_eq_true rfl | (simp; omega)) (Parts.row1 .head (hr.conv fun _ h => h.none) (Nat.le_refl _)))) ?_; rintro r33 _ ⟨rfl, rfl⟩
        refine DL.only (i := 9) (by kernel_rfl) ?_
        refine DL1.stepF rfl rfl rfl (by kernel_rfl) (OpM.w (by apply OpM.buildSlice (by rfl) rfl (by rfl); (repeat (first | exact Fills.nil | (apply Fills.cons rfl rfl rfl; (case' hs => ((repeat (first | exact Spl.nil | apply Spl.here | apply Spl.there)); done))))))) ?_; rintro _ _ ⟨b40, rfl, rfl⟩
        refine DL.only (i := 10) (by kernel_rfl) ?_
        refine DL1.stepF rfl rfl rfl (by kernel_rfl) (by exact OpW.call (first := []) (captured := []) inferInstance rfl rfl (Of_ok (ps := [(_, b1), (_, b2)]) hK (by exact hn3) (by first | assumption | omega | rfl | exact Nat.le_of_ble_eq_true rfl | (simp; omega)) (Parts.row2 .head (hr1.conv fun _ h => h.none) (hr2.conv fun _ h => h.none) (Nat.le_refl _)))) ?_; rintro r41 _ ⟨rfl, rfl⟩
        refine DL.pure (i := 11) (by kernel_rfl) (by kernel_rfl) rfl rfl rfl (OpP.eqBytes rfl rfl (by first | assumption | exact Go.Proofs.B.shaB_length _ _ | solve_by_elim) (by first | assumption | exact Go.Proofs.B.shaB_length _ _ | solve_by_elim)) ?_
        refine DL.pure (i := 12) (by kernel_rfl) (by kernel_rfl) rfl rfl rfl (OpP.move rfl) ?_
        refine DL.decAt 43 rfl (fun h43 => ?_) (fun h43 => ?_)
        focus
          refine DL.pure (i := 13) (by kernel_rfl) (by kernel_rfl) rfl rfl rfl (OpP.move rfl) ?_
          refine DL.pure (i := 15) (by kernel_rfl) (by kernel_rfl) rfl rfl rfl (OpP.move rfl) ?_
          refine DL.two (i := 14) (j := 16) (by kernel_rfl) ?_ ?_
          focus
            refine DL1.f3 ?_; refine DL1.f3 ?_; refine DL1.stepF rfl rfl rfl (by kernel_rfl) (by exact OpW.call (first := []) (captured := []) inferInstance rfl rfl (Sum_ok hK (by rw [hc3]; show b.length ≤ 900000; omega))) ?_; rintro r45 _ ⟨rfl, rfl⟩
            refine DL.only (i := 16) (by kernel_rfl) ?_
            refine DL1.stepF rfl rfl rfl (by kernel_rfl) (OpM.w (by apply OpM.buildSlice (by rfl) rfl (by rfl); (repeat (first | exact Fills.nil | (apply Fills.cons rfl rfl rfl; (case' hs => ((repeat (first | exact Spl.nil | apply Spl.here | apply Spl.there)); done))))))) ?_; rintro _ _ ⟨b47, rfl, rfl⟩
            refine DL.only (i := 17) (by kernel_rfl) ?_
            refine DL1.stepF rfl rfl rfl (by kernel_rfl) (by exact OpW.call (first := []) (captured := []) inferInstance rfl rfl (Of_ok (ps := [(_, b)]) hK (by exact hn2) (by first | assumption | omega | rfl | exact Nat.le_of_ble_eq_true rfl | (simp; omega)) (Parts.row1 .head (hr.conv fun _ h => h.none) (Nat.le_refl _)))) ?_; rintro r48 _ ⟨rfl, rfl⟩
            refine DL.pure (i := 18) (by kernel_rfl) (by kernel_rfl) rfl rfl rfl (OpP.eqBytes rfl rfl (by first | assumption | exact Go.Proofs.B.shaB_length _ _ | solve_by_elim) (by first | assumption | exact Go.Proofs.B.shaB_length _ _ | solve_by_elim)) ?_
            refine DL.pure (i := 19) (by kernel_rfl) (by kernel_rfl) rfl rfl rfl (OpP.pickT rfl rfl) ?_
            refine DL.pure (i := 20) (by kernel_rfl) (by kernel_rfl) rfl rfl rfl (OpP.assign rfl) ?_
            refine DL.done (by kernel_rfl) ?_
            refine J.ret1 rfl rfl ?_
          rotate_left 1
          focus
            refine DL1.stepF rfl rfl rfl (by kernel_rfl) (OpM.w (by apply OpM.buildSlice (by rfl) rfl (by rfl); (repeat (first | exact Fills.nil | (apply Fills.cons rfl rfl rfl; (case' hs => ((repeat (first | exact Spl.nil | apply Spl.here | apply Spl.there)); done))))))) ?_; rintro _ _ ⟨b47, rfl, rfl⟩
            refine DL.only (i := 14) (by kernel_rfl) ?_
            refine DL1.f4 ?_; refine DL1.f4 ?_; refine DL1.stepF rfl rfl rfl (by kernel_rfl) (by exact OpW.call (first := []) (captured := []) inferInstance rfl rfl (Sum_ok hK (by rw [hc3]; show b.length ≤ 900000; omega))) ?_; rintro r45 _ ⟨rfl, rfl⟩
            refine DL.only (i := 17) (by kernel_rfl) ?_
            refine DL1.stepF rfl rfl rfl (by kernel_rfl) (by exact OpW.call (first := []) (captured := []) inferInstance rfl rfl (Of_ok (ps := [(_, b)]) hK (by exact hn2) (by first | assumption | omega | rfl | exact Nat.le_of_ble_eq_true rfl | (simp; omega)) (Parts.row1 (.tail (.tail .head)) (hr.conv fun _ h => h.none) (Nat.le_refl _)))) ?_; rintro r48 _ ⟨rfl, rfl⟩
            refine DL.pure (i := 18) (by kernel_rfl) (by kernel_rfl) rfl rfl rfl (OpP.eqBytes rfl rfl (by first | assumption | exact Go.Proofs.B.shaB_length _ _ | solve_by_elim) (by first | assumption | exact Go.Proofs.B.shaB_length _ _ | solve_by_elim)) ?_
            refine DL.pure (i := 19) (by kernel_rfl) (by kernel_rfl) rfl rfl rfl (OpP.pickT rfl rfl) ?_
            refine DL.pure (i := 20) (by kernel_rfl) (by kernel_rfl) rfl rfl rfl (OpP.assign rfl) ?_
            refine DL.done (by kernel_rfl) ?_
            refine J.ret1 rfl rfl ?_
          rotate_left 1
        rotate_left 2
        focus
          refine DL.skip (i := 13) (by kernel_rfl) (by kernel_rfl) rfl rfl rfl ?_
          refine DL.skip (i := 14) (by kernel_rfl) (by kernel_rfl) rfl rfl rfl ?_
          refine DL.skip (i := 15) (by kernel_rfl) (by kernel_rfl) rfl rfl rfl ?_
          refine DL.skip (i := 16) (by kernel_rfl) (by kernel_rfl) rfl rfl rfl ?_
          refine DL.skip (i := 17) (by kernel_rfl) (by kernel_rfl) rfl rfl rfl ?_
          refine DL.skip (i := 18) (by kernel_rfl) (by kernel_rfl) rfl rfl rfl ?_
          refine DL.pure (i := 19) (by kernel_rfl) (by kernel_rfl) rfl rfl rfl (OpP.pickF rfl rfl) ?_
          refine DL.pure (i := 20) (by kernel_rfl) (by kernel_rfl) rfl rfl rfl (OpP.assign rfl) ?_
          refine DL.done (by kernel_rfl) ?_
          refine J.ret1 rfl rfl ?_
        rotate_left 1
      rotate_left 3
      focus
        refine DL1.stepF rfl rfl rfl (by kernel_rfl) (OpM.w (by apply OpM.buildSlice (by rfl) rfl (by rfl); (repeat (first | exact Fills.nil | (apply Fills.cons rfl rfl rfl; (case' hs => ((repeat (first | exact Spl.nil | apply Spl.here | apply Spl.there)); done))))))) ?_; rintro _ _ ⟨b40, rfl, rfl⟩
        refine DL.only (i := 2) (by kernel_rfl) ?_
        refine DL1.stepF rfl rfl rfl (by kernel_rfl) (by exact OpW.call (first := []) (captured := []) inferInstance rfl rfl (Of_ok (ps := [(_, b)]) hK (by exact hn2) (by first | assumption | omega | rfl | exact Nat.le_of_ble_eq_true rfl | (simp; omega)) (Parts.row1 (.tail .head) (hr.conv fun _ h => h.none) (Nat.le_refl _)))) ?_; rintro r33 _ ⟨rfl, rfl⟩
        refine DL.only (i := 10) (by kernel_rfl) ?_
        refine DL1.stepF rfl rfl rfl (by kernel_rfl) (by exact OpW.call (first := []) (captured := []) inferInstance rfl rfl (Of_ok (ps := [(_, b1), (_, b2)]) hK (by exact hn3) (by first | assumption | omega | rfl | exact Nat.le_of_ble_eq_true rfl | (simp; omega)) (Parts.row2 .head (hr1.conv fun _ h => h.none) (hr2.conv fun _ h => h.none) (Nat.le_refl _)))) ?_; rintro r41 _ ⟨rfl, rfl⟩
        refine DL.pure (i := 11) (by kernel_rfl) (by kernel_rfl) rfl rfl rfl (OpP.eqBytes rfl rfl (by first | assumption | exact Go.Proofs.B.shaB_length _ _ | solve_by_elim) (by first | assumption | exact Go.Proofs.B.shaB_length _ _ | solve_by_elim)) ?_
        refine DL.pure (i := 12) (by kernel_rfl) (by kernel_rfl) rfl rfl rfl (OpP.move rfl) ?_
        refine DL.decAt 43 rfl (fun h43 => ?_) (fun h43 => ?_)
        focus
          refine DL.pure (i := 13) (by kernel_rfl) (by kernel_rfl) rfl rfl rfl (OpP.move rfl) ?_
          refine DL.pure (i := 15) (by kernel_rfl) (by kernel_rfl) rfl rfl rfl (OpP.move rfl) ?_
          refine DL.two (i := 14) (j := 16) (by kernel_rfl) ?_ ?_
          focus
            refine DL1.f3 ?_; refine DL1.f3 ?_; refine DL1.stepF rfl rfl rfl (by kernel_rfl) (by exact OpW.call (first := []) (captured := []) inferInstance rfl rfl (Sum_ok hK (by rw [hc3]; show b.length ≤ 900000; omega))) ?_; rintro r45 _ ⟨rfl, rfl⟩
            refine DL.only (i := 16) (by kernel_rfl) ?_
            refine DL1.stepF rfl rfl rfl (by kernel_rfl) (OpM.w (by apply OpM.buildSlice (by rfl) rfl (by rfl); (repeat (first | exact Fills.nil | (apply Fills.cons rfl rfl rfl; (case' hs => ((repeat (first | exact Spl.nil | apply Spl.here | apply Spl.there)); done))))))) ?_; rintro _ _ ⟨b47, rfl, rfl⟩
            refine DL.only (i := 17) (by kernel_rfl) ?_
            refine DL1.stepF rfl rfl rfl (by kernel_rfl) (by exact OpW.call (first := []) (captured := []) inferInstance rfl rfl (Of_ok (ps := [(_, b)]) hK (by exact hn2) (by first | assumption | omega | rfl | exact Nat.le_of_ble_eq_true rfl | (simp; omega)) (Parts.row1 .head (hr.conv fun _ h => h.none) (Nat.le_refl _)))) ?_; rintro r48 _ ⟨rfl, rfl⟩
            refine DL.pure (i := 18) (by kernel_rfl) (by kernel_rfl) rfl rfl rfl (OpP.eqBytes rfl rfl (by first | assumption | exact Go.Proofs.B.shaB_length _ _ | solve_by_elim) (by first | assumption | exact Go.Proofs.B.shaB_length _ _ | solve_by_elim)) ?_
            refine DL.pure (i := 19) (by kernel_rfl) (by kernel_rfl) rfl rfl rfl (OpP.pickT rfl rfl) ?_
            refine DL.pure (i := 20) (by kernel_rfl) (by kernel_rfl) rfl rfl rfl (OpP.assign rfl) ?_
            refine DL.done (by kernel_rfl) ?_
            refine J.ret1 rfl rfl ?_
          rotate_left 1
          focus
            refine DL1.stepF rfl rfl rfl (by kernel_rfl) (OpM.w (by apply OpM.buildSlice (by rfl) rfl (by rfl); (repeat (first | exact Fills.nil | (apply Fills.cons rfl rfl rfl; (case' hs => ((repeat (first | exact Spl.nil | apply Spl.here | apply Spl.there)); done))))))) ?_; rintro _ _ ⟨b47, rfl, rfl⟩
            refine DL.only (i := 14) (by kernel_rfl) ?_
            refine DL1.f4 ?_; refine DL1.f4 ?_; refine DL1.stepF rfl rfl rfl (by kernel_rfl) (by exact OpW.call (first := []) (captured := []) inferInstance rfl rfl (Sum_ok hK (by rw [hc3]; show b.length ≤ 900000; omega))) ?_; rintro r45 _ ⟨rfl, rfl⟩
            refine DL.only (i := 17) (by kernel_rfl) ?_
            refine DL1.stepF rfl rfl rfl (by kernel_rfl) (by exact OpW.call (first := []) (captured := []) inferInstance rfl rfl (Of_ok (ps := [(_, b)]) hK (by exact hn2) (by first | assumption | omega | rfl | exact Nat.le_of_ble_eq_true rfl | (simp; omega)) (Parts.row1 (.tail (.tail .head)) (hr.conv fun _ h => h.none) (Nat.le_refl _)))) ?_; rintro r48 _ ⟨rfl, rfl⟩
            refine DL.pure (i := 18) (by kernel_rfl) (by kernel_rfl) rfl rfl rfl (OpP.eqBytes rfl rfl (by first | assumption | exact Go.Proofs.B.shaB_length _ _ | solve_by_elim) (by first | assumption | exact Go.Proofs.B.shaB_length _ _ | solve_by_elim)) ?_
            refine DL.pure (i := 19) (by kernel_rfl) (by kernel_rfl) rfl rfl rfl (OpP.pickT rfl rfl) ?_
            refine DL.pure (i := 20) (by kernel_rfl) (by kernel_rfl) rfl rfl rfl (OpP.assign rfl) ?_
            refine DL.done (by kernel_rfl) ?_
            refine J.ret1 rfl rfl ?_
          rotate_left 1
        rotate_left 2
        focus
          refine DL.skip (i := 13) (by kernel_rfl) (by kernel_rfl) rfl rfl rfl ?_
          refine DL.skip (i := 14) (by kernel_rfl) (by kernel_rfl) rfl rfl rfl ?_
          refine DL.skip (i := 15) (by kernel_rfl) (by kernel_rfl) rfl rfl rfl ?_
          refine DL.skip (i := 16) (by kernel_rfl) (by kernel_rfl) rfl rfl rfl ?_
          refine DL.skip (i := 17) (by kernel_rfl) (by kernel_rfl) rfl rfl rfl ?_
          refine DL.skip (i := 18) (by kernel_rfl) (by kernel_rfl) rfl rfl rfl ?_
          refine DL.pure (i := 19) (by kernel_rfl) (by kernel_rfl) rfl rfl rfl (OpP.pickF rfl rfl) ?_
          refine DL.pure (i := 20) (by kernel_rfl) (by kernel_rfl) rfl rfl rfl (OpP.assign rfl) ?_
          refine DL.done (by kernel_rfl) ?_
          refine J.ret1 rfl rfl ?_
        rotate_left 1
      rotate_left 3
    rotate_left 6
    focus
      refine DL1.stepF rfl rfl rfl (by kernel_rfl) (OpM.w (by apply OpM.buildSlice (by rfl) rfl (by rfl); (repeat (first | exact Fills.nil | (apply Fills.cons rfl rfl rfl; (case' hs => ((repeat (first | exact Spl.nil | apply Spl.here | apply Spl.there)); done))))))) ?_; rintro _ _ ⟨b40, rfl, rfl⟩
      refine DL.only (i := 1) (by kernel_rfl) ?_
      refine DL1.stepF rfl rfl rfl (by kernel_rfl) (OpM.w (by apply OpM.buildSlice (by rfl) rfl (by rfl); (repeat (first | exact Fills.nil | (apply Fills.cons rfl rfl rfl; (case' hs => ((repeat (first | exact Spl.nil | apply Spl.here | apply Spl.there)); done))))))) ?_; rintro _ _ ⟨b32, rfl, rfl⟩
      refine DL.only (i := 2) (by kernel_rfl) ?_
      refine DL1.stepF rfl rfl rfl (by kernel_rfl) (by exact OpW.call (first := []) (captured := []) inferInstance rfl rfl (Of_ok (ps := [(_, b)]) hK (by exact hn2) (by first | assumption | omega | rfl | exact Nat.le_of_ble_eq_true rfl | (simp; omega)) (Parts.row1 .head (hr.conv fun _ h => h.none) (Nat.le_refl _)))) ?_; rintro r33 _ ⟨rfl, rfl⟩
      refine DL.only (i := 10) (by kernel_rfl) ?_
      refine DL1.stepF rfl rfl rfl (by kernel_rfl) (by exact OpW.call (first := []) (captured := []) inferInstance rfl rfl (Of_ok (ps := [(_, b1), (_, b2)]) hK (by exact hn3) (by first | assumption | omega | rfl | exact Nat.le_of_ble_eq_true rfl | (simp; omega)) (Parts.row2 (.tail .head) (hr1.conv fun _ h => h.none) (hr2.conv fun _ h => h.none) (Nat.le_refl _)))) ?_; rintro r41 _ ⟨rfl, rfl⟩
      refine DL.pure (i := 11) (by kernel_rfl) (by kernel_rfl) rfl rfl rfl (OpP.eqBytes rfl rfl (by first | assumption | exact Go.Proofs.B.shaB_length _ _ | solve_by_elim) (by first | assumption | exact Go.Proofs.B.shaB_length _ _ | solve_by_elim)) ?_
      refine DL.pure (i := 12) (by kernel_rfl) (by kernel_rfl) rfl rfl rfl (OpP.move rfl) ?_
      refine DL.decAt 43 rfl (fun h43 => ?_) (fun h43 => ?_)
      focus
        refine DL.pure (i := 13) (by kernel_rfl) (by kernel_rfl) rfl rfl rfl (OpP.move rfl) ?_
        refine DL.pure (i := 15) (by kernel_rfl) (by kernel_rfl) rfl rfl rfl (OpP.move rfl) ?_
        refine DL.two (i := 14) (j := 16) (by kernel_rfl) ?_ ?_
        focus
          refine DL1.f3 ?_; refine DL1.f3 ?_; refine DL1.stepF rfl rfl rfl (by kernel_rfl) (by exact OpW.call (first := []) (captured := []) inferInstance rfl rfl (Sum_ok hK (by rw [hc3]; show b.length ≤ 900000; omega))) ?_; rintro r45 _ ⟨rfl, rfl⟩
          refine DL.only (i := 16) (by kernel_rfl) ?_
          refine DL1.stepF rfl rfl rfl (by kernel_rfl) (OpM.w (by apply OpM.buildSlice (by rfl) rfl (by rfl); (repeat (first | exact Fills.nil | (apply Fills.cons rfl rfl rfl; (case' hs => ((repeat (first | exact Spl.nil | apply Spl.here | apply Spl.there)); done))))))) ?_; rintro _ _ ⟨b47, rfl, rfl⟩
          refine DL.only (i := 17) (by kernel_rfl) ?_
          refine DL1.stepF rfl rfl rfl (by kernel_rfl) (by exact OpW.call (first := []) (captured := []) inferInstance rfl rfl (Of_ok (ps := [(_, b)]) hK (by exact hn2) (by first | assumption | omega | rfl | exact Nat.le_of_ble_eq_true rfl | (simp; omega)) (Parts.row1 .head (hr.conv fun _ h => h.none) (Nat.le_refl _)))) ?_; rintro r48 _ ⟨rfl, rfl⟩
          refine DL.pure (i := 18) (by kernel_rfl) (by kernel_rfl) rfl rfl rfl (OpP.eqBytes rfl rfl (by first | assumption | exact Go.Proofs.B.shaB_length _ _ | solve_by_elim) (by first | assumption | exact Go.Proofs.B.shaB_length _ _ | solve_by_elim)) ?_
          refine DL.pure (i := 19) (by kernel_rfl) (by kernel_rfl) rfl rfl rfl (OpP.pickT rfl rfl) ?_
          refine DL.pure (i := 20) (by kernel_rfl) (by kernel_rfl) rfl rfl rfl (OpP.assign rfl) ?_
          refine DL.done (by kernel_rfl) ?_
          refine J.ret1 rfl rfl ?_
        rotate_left 1
        focus
          refine DL1.stepF rfl rfl rfl (by kernel_rfl) (OpM.w (by apply OpM.buildSlice (by rfl) rfl (by rfl); (repeat (first | exact Fills.nil | (apply Fills.cons rfl rfl rfl; (case' hs => ((repeat (first | exact Spl.nil | apply Spl.here | apply Spl.there)); done))))))) ?_; rintro _ _ ⟨b47, rfl, rfl⟩
          refine DL.only (i := 14) (by kernel_rfl) ?_
          refine DL1.f4 ?_; refine DL1.f4 ?_; refine DL1.stepF rfl rfl rfl (by kernel_rfl) (by exact OpW.call (first := []) (captured := []) inferInstance rfl rfl (Sum_ok hK (by rw [hc3]; show b.length ≤ 900000; omega))) ?_; rintro r45 _ ⟨rfl, rfl⟩
          refine DL.only (i := 17) (by kernel_rfl) ?_
          refine DL1.stepF rfl rfl rfl (by kernel_rfl) (by exact OpW.call (first := []) (captured := []) inferInstance rfl rfl (Of_ok (ps := [(_, b)]) hK (by exact hn2) (by first | assumption | omega | rfl | exact Nat.le_of_ble_eq_true rfl | (simp; omega)) (Parts.row1 (.tail (.tail .head)) (hr.conv fun _ h => h.none) (Nat.le_refl _)))) ?_; rintro r48 _ ⟨rfl, rfl⟩
          refine DL.pure (i := 18) (by kernel_rfl) (by kernel_rfl) rfl rfl rfl (OpP.eqBytes rfl rfl (by first | assumption | exact Go.Proofs.B.shaB_length _ _ | solve_by_elim) (by first | assumption | exact Go.Proofs.B.shaB_length _ _ | solve_by_elim)) ?_
          refine DL.pure (i := 19) (by kernel_rfl) (by kernel_rfl) rfl rfl rfl (OpP.pickT rfl rfl) ?_
          refine DL.pure (i := 20) (by kernel_rfl) (by kernel_rfl) rfl rfl rfl (OpP.assign rfl) ?_
          refine DL.done (by kernel_rfl) ?_
          refine J.ret1 rfl rfl ?_
        rotate_left 1
      rotate_left 2
      focus
        refine DL.skip (i := 13) (by kernel_rfl) (by kernel_rfl) rfl rfl rfl ?_
        refine DL.skip (i := 14) (by kernel_rfl) (by kernel_rfl) rfl rfl rfl ?_
        refine DL.skip (i := 15) (by kernel_rfl) (by kernel_rfl) rfl rfl rfl ?_
        refine DL.skip (i := 16) (by kernel_rfl) (by kernel_rfl) rfl rfl rfl ?_
        refine DL.skip (i := 17) (by kernel_rfl) (by kernel_rfl) rfl rfl rfl ?_
        refine DL.skip (i := 18) (by kernel_rfl) (by kernel_rfl) rfl rfl rfl ?_
        refine DL.pure (i := 19) (by kernel_rfl) (by kernel_rfl) rfl rfl rfl (OpP.pickF rfl rfl) ?_
        refine DL.pure (i := 20) (by kernel_rfl) (by kernel_rfl) rfl rfl rfl (OpP.assign rfl) ?_
        refine DL.done (by kernel_rfl) ?_
        refine J.ret1 rfl rfl ?_
      rotate_left 1
    rotate_left 3
    all_goals first
      | (show Value.bool (decide _) = _; exact congrArg Value.bool (decide_eq_true (by rw [hc1, hc3, List.nil_append])))
      | (exfalso; apply h42; rw [hc1, hc2])
      | (exfalso; apply h43; rw [hc1, hc2])
      | (exfalso; apply h41; rw [hc1, hc2])
      | skip
  · refine J.seq ?_
    refine J.region ?_
    refine JL.pure rfl rfl (OpP.assign rfl) ?_
    refine JL.nil ?_
    refine J.seq ?_
    refine J.seq ?_
    refine J.region ?_
    refine JL.step rfl rfl (OpW.call (first := []) (captured := []) inferInstance rfl rfl (hA _)) ?_; rintro r7 _ ⟨rfl, rfl⟩
    refine JL.pure rfl rfl (OpP.notB rfl) ?_
    refine JL.pure rfl rfl (OpP.move rfl) ?_
    refine JL.pure rfl rfl (OpP.move rfl) ?_
    refine JL.pure rfl rfl (OpP.len rfl rfl) ?_
    refine JL.decT rfl rfl (OpP.gtr rfl rfl) (by omega) ?_
    refine JL.pure rfl rfl (OpP.pickF rfl rfl) ?_
    refine JL.nil ?_
    refine J.condT rfl ?_
    refine J.seq ?_
    refine J.region ?_
    refine JL.step rfl rfl (OpW.call (first := []) (captured := []) inferInstance rfl rfl (hA _)) ?_; rintro r14 _ ⟨rfl, rfl⟩
    refine JL.pure rfl rfl (OpP.assign rfl) ?_
    refine JL.nil ?_
    refine J.ret1 rfl rfl ?_
    rfl
end Go.Proofs.B
