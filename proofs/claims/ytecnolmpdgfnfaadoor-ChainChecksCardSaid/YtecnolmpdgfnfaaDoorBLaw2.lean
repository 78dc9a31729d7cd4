/- A text of the proof of a statement about the given program: its part BLaw2. No person has read it. -/
import Derived.Test.YtecnolmpdgfnfaaDoorBLaw
import Derived.Test.YtecnolmpdgfnfaaDoorJ25
-- seat b
namespace Go.Proofs.B
open Go Go.Gp Go.RowKit

def be4 (n : Nat) : List UInt8 := [UInt8.ofNat (n / 16777216), UInt8.ofNat (n / 65536), UInt8.ofNat (n / 256), UInt8.ofNat n]
theorem wrapB (k : Nat) : Value.int .u8 (IntKind.u8.wrap (k : Int)) = u8c (UInt8.ofNat k) := by
  rw [wrap_u8, u8c, UInt8.toNat_ofNat']; rfl
/-- What a link is the fingerprint of. -/
def linkT (p rc : List UInt8) : List UInt8 := p ++ (be4 rc.length ++ rc)
theorem cat_link {a b c : Value} {p q rc : List UInt8} : cat [(a, p), (b, q), (c, rc)] = p ++ (q ++ rc) := by
  show p ++ (q ++ (rc ++ [])) = _
  rw [List.append_nil]
theorem Link_ok {w0 : World} {F : List HProp} {p rc : List UInt8} {v : Value} {K : Ws} (hK : Tab w0 0 64 fun j => w32 (K j)) (hp : p.length = 32) (hl : rc.length ≤ 800000) (hr : RdO w0 F v rc.length (bcells rc)) :
    FnO Tryd.prog w0 23 [.agg (bcells p).toArray, v] F (fun r l' => r = .agg (bcells (shaB K (linkT p rc))).toArray ∧ l' = F) := by
  refine FnO.rdF (fun _ h => h) hr fun hr0 => ?_
  obtain ⟨va, vc, rfl⟩ := hr0.lit
  refine FnO.weak ?_
  refine FnO.intro (n := 25) Tryd.func23 rfl rfl rfl ?_
  have hs : rc.length ≤ 4294967295 := by omega
  have hl2 : ∀ h : True, rc.length ≤ 800000 := fun _ => hl
  clear hl
  refine J.seq ?_
  refine J.region ?_
  refine JL.mem rfl rfl (OpM.box rfl rfl) ?_; rintro _ _ ⟨b2, rfl, rfl⟩
  refine JL.mem rfl rfl OpM.alloc ?_; rintro _ _ ⟨b4, rfl, rfl⟩
  refine JL.nil ?_
  refine J.seq ?_
  refine J.region ?_
  refine JL.pure rfl rfl (OpP.move rfl) ?_
  refine JL.pure rfl rfl (OpP.len rfl rfl) ?_
  refine JL.pure rfl rfl (OpP.convI rfl (by simp [IntKind.min, IntKind.max, IntKind.signed, IntKind.bits] <;> omega) (by simp [IntKind.min, IntKind.max, IntKind.signed, IntKind.bits] <;> omega)) ?_
  refine JL.pure rfl rfl (OpP.assign rfl) ?_
  refine JL.nil ?_
  refine J.seq ?_
  refine J.region ?_
  refine JL.pure rfl rfl (OpP.sliceA rfl rfl rfl (by first | exact .inl ⟨rfl, rfl⟩ | exact .inr ⟨_, rfl⟩) (by first | exact .inl ⟨rfl, rfl⟩ | exact .inr ⟨_, rfl⟩) (by omega) (by omega)) ?_
  refine JL.pure rfl rfl (OpP.move rfl) ?_
  refine JL.pure rfl rfl (OpP.shrN rfl rfl (by omega) (by first | decide | (simp only [IntKind.bits]; omega))) ?_
  refine JL.pure rfl rfl (OpP.convI rfl (by simp [IntKind.min, IntKind.max, IntKind.signed, IntKind.bits] <;> omega) (by simp [IntKind.min, IntKind.max, IntKind.signed, IntKind.bits] <;> omega)) ?_
  refine JL.pure rfl rfl (OpP.move rfl) ?_
  refine JL.pure rfl rfl (OpP.shrN rfl rfl (by omega) (by first | decide | (simp only [IntKind.bits]; omega))) ?_
  refine JL.pure rfl rfl (OpP.conv rfl) ?_
  refine JL.pure rfl rfl (OpP.move rfl) ?_
  refine JL.pure rfl rfl (OpP.shrN rfl rfl (by omega) (by first | decide | (simp only [IntKind.bits]; omega))) ?_
  refine JL.pure rfl rfl (OpP.conv rfl) ?_
  refine JL.pure rfl rfl (OpP.move rfl) ?_
  refine JL.pure rfl rfl (OpP.conv rfl) ?_
  refine JL.mem rfl rfl (by apply OpM.buildSlice (by rfl) rfl (by rfl); (repeat (first | exact Fills.nil | (apply Fills.cons rfl rfl rfl; (case' hs => ((repeat (first | exact Spl.nil | apply Spl.here | apply Spl.there)); done)))))) ?_; rintro _ _ ⟨b21, rfl, rfl⟩
  refine JL.pure rfl rfl (OpP.move rfl) ?_
  refine JL.mem rfl rfl (by apply OpM.buildSlice (by rfl) rfl (by rfl); (repeat (first | exact Fills.nil | (apply Fills.cons rfl rfl rfl; (case' hs => ((repeat (first | exact Spl.nil | apply Spl.here | apply Spl.there)); done)))))) ?_; rintro _ _ ⟨b23, rfl, rfl⟩
  have e24 : Value.int .u8 ((rc.length / 2 ^ Int.toNat 24 : Nat) : Int) = u8c (UInt8.ofNat (rc.length / 16777216)) := by
    rw [← wrapB, wrap_u8]
    show Value.int .u8 ((rc.length / 16777216 : Nat) : Int) = _
    congr 1
    omega
  rw [show (32 - 0 : Nat) = p.length from hp.symm, show (if 32 = 0 then 0 else 0 + 0 * 1) = 0 from rfl, e24, wrapB, wrapB, wrapB]
  have h1 : (cat [(Value.bool true, p), (Value.bool true, be4 rc.length), (Value.bool true, rc)]).length ≤ 900000 := by
    have := hl2 trivial
    simp [cat, hp, be4]; omega
  refine JL.step rfl rfl (OpW.call (first := []) (captured := []) inferInstance rfl rfl (Of_ok (ps := [(_, p), (_, be4 rc.length), (_, rc)]) hK (by exact h1) (by first | assumption | omega | rfl | exact Nat.le_of_ble_eq_true rfl | (simp; omega)) (Parts.row3 .head (RdO.ofRow (.tail (.tail (.tail .head))) (by first | exact Nat.le_refl _ | decide | omega)) (RdO.ofRow (.tail .head) (by first | exact Nat.le_refl _ | decide | omega)) (hr.conv fun _ h => Own.pick (pre := [_, _, _, _]) [] rfl h) (Nat.le_refl _)))) ?_; rintro r24 _ ⟨rfl, rfl⟩
  refine JL.mem0 rfl (by apply OpM.storeN rfl rfl (by rw [bcells_length]; first | assumption | exact Go.Proofs.B.shaB_length _ _ | solve_by_elim) (bcells_one _); (case' hu => exact (.tail (.tail .head))); (case' hs => exact spl_all (by first | (rw [bcells_length, List.length_replicate]; first | assumption | exact Go.Proofs.B.shaB_length _ _ | solve_by_elim) | (rw [bcells_length, bcells_length]; first | assumption | exact Go.Proofs.B.shaB_length _ _ | solve_by_elim) | (rw [bcells_length]; first | assumption | exact Go.Proofs.B.shaB_length _ _ | solve_by_elim))); done) ?_; rintro _ _ ⟨rfl, rfl⟩
  refine JL.nil ?_
  refine J.retC rfl rfl (by apply Cells.full; (with_reducible repeat (first | exact .head | apply Has.tail))) (by first | (rw [bcells_length]; first | assumption | exact Go.Proofs.B.shaB_length _ _ | solve_by_elim) | exact fc_length _ _ | exact fB_length _ _ | rfl) ?_
  exact ⟨_, ⟨by rw [cat_link]; rfl, rfl⟩, fun _ h => h.tail.tail.tail.tail⟩
theorem RefLink_ok {w0 : World} {F : List HProp} {p rc : List UInt8} {v : Value} {K : Ws} (hK : ∀ i, i < 64 → hexOk constS i (K i) = true) (hp : p.length = 32) (hl : rc.length ≤ 80000) (hr : RdO w0 F v rc.length (bcells rc)) :
    FnO Tryd.prog w0 24 [.agg (bcells p).toArray, v] F (fun r l' => r = .agg (bcells (shaB K (linkT p rc))).toArray ∧ l' = F) := by
  refine FnO.rdF (fun _ h => h) hr fun hr0 => ?_
  obtain ⟨va, vc, rfl⟩ := hr0.lit
  refine FnO.weak ?_
  refine FnO.intro (n := 27) Tryd.func24 rfl rfl rfl ?_
  have hs : rc.length ≤ 4294967295 := by omega
  have hl2 : ∀ h : True, rc.length ≤ 80000 := fun _ => hl
  clear hl
  refine J.seq ?_
  refine J.region ?_
  refine JL.mem rfl rfl (OpM.box rfl rfl) ?_; rintro _ _ ⟨b2, rfl, rfl⟩
  refine JL.mem rfl rfl OpM.alloc ?_; rintro _ _ ⟨b4, rfl, rfl⟩
  refine JL.nil ?_
  refine J.seq ?_
  refine J.region ?_
  refine JL.pure rfl rfl (OpP.move rfl) ?_
  refine JL.pure rfl rfl (OpP.len rfl rfl) ?_
  refine JL.pure rfl rfl (OpP.assign rfl) ?_
  refine JL.nil ?_
  refine J.seq ?_
  refine J.region ?_
  refine JL.pure rfl rfl (OpP.move rfl) ?_
  refine JL.pure rfl rfl (OpP.quoI rfl rfl (by omega) (by omega) (by first | decide | (simp only [IntKind.max]; omega) | (simp [IntKind.max, IntKind.signed, IntKind.bits]; omega))) ?_
  refine JL.pure rfl rfl (OpP.convI rfl (by simp [IntKind.min, IntKind.max, IntKind.signed, IntKind.bits] <;> omega) (by simp [IntKind.min, IntKind.max, IntKind.signed, IntKind.bits] <;> omega)) ?_
  refine JL.pure rfl rfl (OpP.move rfl) ?_
  refine JL.pure rfl rfl (OpP.quoI rfl rfl (by omega) (by omega) (by first | decide | (simp only [IntKind.max]; omega) | (simp [IntKind.max, IntKind.signed, IntKind.bits]; omega))) ?_
  refine JL.pure rfl rfl (OpP.conv rfl) ?_
  refine JL.pure rfl rfl (OpP.move rfl) ?_
  refine JL.pure rfl rfl (OpP.quoI rfl rfl (by omega) (by omega) (by first | decide | (simp only [IntKind.max]; omega) | (simp [IntKind.max, IntKind.signed, IntKind.bits]; omega))) ?_
  refine JL.pure rfl rfl (OpP.conv rfl) ?_
  refine JL.pure rfl rfl (OpP.move rfl) ?_
  refine JL.pure rfl rfl (OpP.conv rfl) ?_
  refine JL.mem rfl rfl (by apply OpM.buildSlice (by rfl) rfl (by rfl); (repeat (first | exact Fills.nil | (apply Fills.cons rfl rfl rfl; (case' hs => ((repeat (first | exact Spl.nil | apply Spl.here | apply Spl.there)); done)))))) ?_; rintro _ _ ⟨b20, rfl, rfl⟩
  refine JL.pure rfl rfl (OpP.assign rfl) ?_
  refine JL.nil ?_
  have e1 : Value.int .u8 ((rc.length : Int) / 16777216) = u8c (UInt8.ofNat (rc.length / 16777216)) := by
    rw [← wrapB, wrap_u8]
    congr 1
    omega
  have e2 : Value.int .u8 (IntKind.u8.wrap ((rc.length : Int) / 65536)) = u8c (UInt8.ofNat (rc.length / 65536)) := wrapB _
  have e3 : Value.int .u8 (IntKind.u8.wrap ((rc.length : Int) / 256)) = u8c (UInt8.ofNat (rc.length / 256)) := wrapB _
  rw [e1, e2, e3, wrapB]
  refine J.seq ?_
  refine J.region ?_
  refine JL.pure rfl rfl (OpP.sliceA rfl rfl rfl (by first | exact .inl ⟨rfl, rfl⟩ | exact .inr ⟨_, rfl⟩) (by first | exact .inl ⟨rfl, rfl⟩ | exact .inr ⟨_, rfl⟩) (by omega) (by omega)) ?_
  refine JL.pure rfl rfl (OpP.move rfl) ?_
  refine JL.pure rfl rfl (OpP.move rfl) ?_
  refine JL.mem rfl rfl (by apply OpM.buildSlice (by rfl) rfl (by rfl); (repeat (first | exact Fills.nil | (apply Fills.cons rfl rfl rfl; (case' hs => ((repeat (first | exact Spl.nil | apply Spl.here | apply Spl.there)); done)))))) ?_; rintro _ _ ⟨b24, rfl, rfl⟩
  rw [show (32 - 0 : Nat) = p.length from hp.symm, show (if 32 = 0 then 0 else 0 + 0 * 1) = 0 from rfl]
  have h1 : (cat [(Value.bool true, p), (Value.bool true, be4 rc.length), (Value.bool true, rc)]).length ≤ 100000 := by
    have := hl2 trivial
    simp [cat, hp, be4]; omega
  have h2 : (cat [(Value.bool true, p), (Value.bool true, be4 rc.length), (Value.bool true, rc)]).length ≤ 1000000 := by omega
  refine JL.step rfl rfl (OpW.call (first := []) (captured := []) inferInstance rfl rfl (Joined_ok (ps := [(_, p), (_, be4 rc.length), (_, rc)]) (by exact h2) (by first | assumption | omega | rfl | exact Nat.le_of_ble_eq_true rfl | (simp; omega)) (Parts.row3 .head (RdO.ofRow (.tail (.tail (.tail .head))) (by first | exact Nat.le_refl _ | decide | omega)) (RdO.ofRow (.tail .head) (by first | exact Nat.le_refl _ | decide | omega)) (hr.conv fun _ h => Own.pick (pre := [_, _, _, _]) [] rfl h) (Nat.le_refl _)))) ?_; rintro r25 _ rfl
  refine JL.lit .head fun ar25 cr25 er25 => ?_; subst er25
  refine JL.step rfl rfl (OpW.call (first := []) (captured := []) inferInstance rfl rfl (RefSum_ok hK (by exact h1) (RdO.own .head))) ?_; rintro r26 _ ⟨rfl, rfl⟩
  refine JL.mem0 rfl (by apply OpM.storeN rfl rfl (by rw [bcells_length]; first | assumption | exact Go.Proofs.B.shaB_length _ _ | solve_by_elim) (bcells_one _); (case' hu => exact (.tail (.tail (.tail .head)))); (case' hs => exact spl_all (by first | (rw [bcells_length, List.length_replicate]; first | assumption | exact Go.Proofs.B.shaB_length _ _ | solve_by_elim) | (rw [bcells_length, bcells_length]; first | assumption | exact Go.Proofs.B.shaB_length _ _ | solve_by_elim) | (rw [bcells_length]; first | assumption | exact Go.Proofs.B.shaB_length _ _ | solve_by_elim))); done) ?_; rintro _ _ ⟨rfl, rfl⟩
  refine JL.nil ?_
  refine J.retC rfl rfl (by apply Cells.full; (with_reducible repeat (first | exact .head | apply Has.tail))) (by first | (rw [bcells_length]; first | assumption | exact Go.Proofs.B.shaB_length _ _ | solve_by_elim) | exact fc_length _ _ | exact fB_length _ _ | rfl) ?_
  exact ⟨_, ⟨by rw [cat_link]; rfl, rfl⟩, fun _ h => h.tail.tail.tail.tail.tail⟩
theorem ShaLinks_ok {w0 : World} {p rc : List UInt8} {v : Value} (hK : Tab w0 0 64 fun j => w32 (Kc j)) (hp : p.length = 32) (hl : rc.length ≤ 9223372036854775807) (hr : RdO w0 [] v rc.length (bcells rc)) :
    FnO Tryd.prog w0 7 [.agg (bcells p).toArray, v] [] (fun v _ => v = .bool true) := by
  refine FnO.rdF (fun _ h => h) hr fun hr0 => ?_
  obtain ⟨va, vc, rfl⟩ := hr0.lit
  refine FnO.intro (n := 20) Tryd.func7 rfl rfl rfl ?_
  by_cases hn : rc.length ≤ 1000
  · have h1 : rc.length ≤ 800000 := by omega
    have h2 : rc.length ≤ 80000 := by omega
    refine J.seq ?_
    refine J.region ?_
    refine JL.mem rfl rfl (OpM.box rfl rfl) ?_; rintro _ _ ⟨b2, rfl, rfl⟩
    refine JL.pure rfl rfl (OpP.assign rfl) ?_
    refine JL.nil ?_
    refine J.seq ?_
    refine J.seq ?_
    refine J.region ?_
    refine JL.step rfl rfl (OpW.call (first := []) (captured := []) inferInstance rfl rfl (Awake_ok hK)) ?_; rintro r5 _ ⟨rfl, rfl⟩
    refine JL.pure rfl rfl (OpP.notB rfl) ?_
    refine JL.pure rfl rfl (OpP.move rfl) ?_
    refine JL.pure rfl rfl (OpP.move rfl) ?_
    refine JL.pure rfl rfl (OpP.len rfl rfl) ?_
    refine JL.decF rfl rfl (OpP.gtr rfl rfl) (by omega) ?_
    refine JL.pure rfl rfl (OpP.pickF rfl rfl) ?_
    refine JL.nil ?_
    refine J.condF rfl ?_
    refine J.skip ?_
    refine J.seq ?_
    refine J.regionD [0, 3] (by kernel_rfl) ?_
    refine DL.read (i := 0) (by kernel_rfl) (by kernel_rfl) rfl rfl rfl (fun _ h => h) (OpR.loadN rfl (Cells.full .head) (by rw [bcells_length]; first | assumption | exact Go.Proofs.B.shaB_length _ _ | solve_by_elim)) ?_
    refine DL.pure (i := 1) (by kernel_rfl) (by kernel_rfl) rfl rfl rfl (OpP.move rfl) ?_
    refine DL.read (i := 3) (by kernel_rfl) (by kernel_rfl) rfl rfl rfl (fun _ h => h) (OpR.loadN rfl (Cells.full .head) (by rw [bcells_length]; first | assumption | exact Go.Proofs.B.shaB_length _ _ | solve_by_elim)) ?_
    refine DL.pure (i := 4) (by kernel_rfl) (by kernel_rfl) rfl rfl rfl (OpP.move rfl) ?_
    refine DL.only (i := 2) (by kernel_rfl) ?_
    refine DL1.stepK rfl rfl rfl (by exact OpW.call (first := []) (captured := []) inferInstance rfl rfl (Link_ok hK hp h1 (hr.conv fun _ h => h.none))) (by rintro _ _ ⟨rfl, rfl⟩ _ h; exact Own.pick (pre := [_]) [0] rfl h) ?_; rintro r15 _ ⟨rfl, rfl⟩
    refine DL.only (i := 5) (by kernel_rfl) ?_
    refine DL1.stepF rfl rfl rfl (by kernel_rfl) (by exact OpW.call (first := []) (captured := []) inferInstance rfl rfl (RefLink_ok hexKc hp h2 (hr.conv fun _ h => h.none))) ?_; rintro r18 _ ⟨rfl, rfl⟩
    refine DL.pure (i := 6) (by kernel_rfl) (by kernel_rfl) rfl rfl rfl (OpP.eqBytes rfl rfl (by first | assumption | exact Go.Proofs.B.shaB_length _ _ | solve_by_elim) (by first | assumption | exact Go.Proofs.B.shaB_length _ _ | solve_by_elim)) ?_
    refine DL.pure (i := 7) (by kernel_rfl) (by kernel_rfl) rfl rfl rfl (OpP.assign rfl) ?_
    refine DL.done (by kernel_rfl) ?_
    refine J.ret1 rfl rfl ?_
    rw [decide_eq_true rfl]
  · refine J.seq ?_
    refine J.region ?_
    refine JL.mem rfl rfl (OpM.box rfl rfl) ?_; rintro _ _ ⟨b2, rfl, rfl⟩
    refine JL.pure rfl rfl (OpP.assign rfl) ?_
    refine JL.nil ?_
    refine J.seq ?_
    refine J.seq ?_
    refine J.region ?_
    refine JL.step rfl rfl (OpW.call (first := []) (captured := []) inferInstance rfl rfl (Awake_ok hK)) ?_; rintro r5 _ ⟨rfl, rfl⟩
    refine JL.pure rfl rfl (OpP.notB rfl) ?_
    refine JL.pure rfl rfl (OpP.move rfl) ?_
    refine JL.pure rfl rfl (OpP.move rfl) ?_
    refine JL.pure rfl rfl (OpP.len rfl rfl) ?_
    refine JL.decT rfl rfl (OpP.gtr rfl rfl) (by omega) ?_
    refine JL.pure rfl rfl (OpP.pickF rfl rfl) ?_
    refine JL.nil ?_
    refine J.condT rfl ?_
    refine J.seq ?_
    refine J.region ?_
    refine JL.step rfl rfl (OpW.call (first := []) (captured := []) inferInstance rfl rfl (Awake_ok hK)) ?_; rintro r12 _ ⟨rfl, rfl⟩
    refine JL.pure rfl rfl (OpP.assign rfl) ?_
    refine JL.nil ?_
    refine J.ret1 rfl rfl ?_
    rfl
end Go.Proofs.B
