/- A text of the proof of a statement about the given program: its part BSha. No person has read it. -/
import Derived.Test.YtecnolmpdgfnfaaDoorBInst
import Derived.Test.YtecnolmpdgfnfaaDoorJ20
-- seat b
namespace Go.Proofs.B
open Go Go.Gp Go.RowKit

def rotr (x : BitVec 32) (a : Nat) : BitVec 32 := x <<< (32 - a) ||| x >>> a
theorem Rot_ok {w0 : World} {F : List HProp} {x : BitVec 32} {a : Nat} (h0 : 0 < a) (h1 : a < 32) :
    FnO Tryd.prog w0 57 [w32 x, .int .i64 (-(a : Int))] F (fun v l' => v = w32 (rotr x a) ∧ l' = F) := by
  refine FnO.intro (n := 17) Tryd.func57 rfl rfl rfl ?_
  refine J.seq ?_
  refine J.region ?_
  refine JL.pure rfl rfl (OpP.assign rfl) ?_
  refine JL.nil ?_
  refine J.seq ?_
  refine J.region ?_
  refine JL.pure rfl rfl (OpP.move rfl) ?_
  refine JL.pure rfl rfl (OpP.conv rfl) ?_
  refine JL.pure rfl rfl (OpP.rotAnd rfl rfl (by omega) (by omega)) ?_
  refine JL.pure rfl rfl (OpP.assign rfl) ?_
  refine JL.nil ?_
  refine J.seq ?_
  refine J.region ?_
  refine JL.pure rfl rfl (OpP.move rfl) ?_
  refine JL.pure rfl rfl (OpP.move rfl) ?_
  refine JL.pure rfl rfl (OpP.wShlI rfl rfl (by omega) (by omega)) ?_
  refine JL.pure rfl rfl (OpP.move rfl) ?_
  refine JL.pure rfl rfl (OpP.move rfl) ?_
  refine JL.pure rfl rfl (OpP.subK rfl rfl (by simp [IntKind.min, IntKind.max, IntKind.signed, IntKind.bits] <;> omega) (by simp [IntKind.min, IntKind.max, IntKind.signed, IntKind.bits] <;> omega)) ?_
  refine JL.pure rfl rfl (OpP.wShrI rfl rfl (by omega) (by omega)) ?_
  refine JL.pure rfl rfl (OpP.wOr rfl rfl) ?_
  refine JL.pure rfl rfl (OpP.assign rfl) ?_
  refine JL.nil ?_
  refine J.ret1 rfl rfl ?_
  refine ⟨?_, rfl⟩
  rw [rotr, show (32 - (a : Int)).toNat = 32 - a by omega, show (32 - (32 - (a : Int))).toNat = a by omega]
def turn3 (x : BitVec 32) (a b c : Nat) : BitVec 32 := rotr x a ^^^ rotr x b ^^^ rotr x c
def half2 (x : BitVec 32) (a b c : Nat) : BitVec 32 := rotr x a ^^^ rotr x b ^^^ x >>> c
theorem Turned_ok {w0 : World} {F : List HProp} {x : BitVec 32} {a b c : Nat} (a0 : 0 < a) (a1 : a < 32) (b0 : 0 < b) (b1 : b < 32) (c0 : 0 < c) (c1 : c < 32) :
    FnO Tryd.prog w0 54 [w32 x, .int .i64 (a : Int), .int .i64 (b : Int), .int .i64 (c : Int)] F (fun v l' => v = w32 (turn3 x a b c) ∧ l' = F) := by
  refine FnO.intro (n := 23) Tryd.func54 rfl rfl rfl ?_
  refine J.seq ?_
  refine J.region ?_
  refine JL.pure rfl rfl (OpP.assign rfl) ?_
  refine JL.nil ?_
  refine J.seq ?_
  refine J.region ?_
  refine JL.pure rfl rfl (OpP.move rfl) ?_
  refine JL.pure rfl rfl (OpP.move rfl) ?_
  refine JL.pure rfl rfl (OpP.negI rfl (by omega) (by omega)) ?_
  refine JL.step rfl rfl (OpW.call (first := []) (captured := []) inferInstance rfl rfl (Rot_ok (by first | assumption | omega | rfl) (by first | assumption | omega | rfl))) ?_; rintro r12 _ ⟨rfl, rfl⟩
  refine JL.pure rfl rfl (OpP.move rfl) ?_
  refine JL.pure rfl rfl (OpP.move rfl) ?_
  refine JL.pure rfl rfl (OpP.negI rfl (by omega) (by omega)) ?_
  refine JL.step rfl rfl (OpW.call (first := []) (captured := []) inferInstance rfl rfl (Rot_ok (by first | assumption | omega | rfl) (by first | assumption | omega | rfl))) ?_; rintro r16 _ ⟨rfl, rfl⟩
  refine JL.pure rfl rfl (OpP.wXor rfl rfl) ?_
  refine JL.pure rfl rfl (OpP.move rfl) ?_
  refine JL.pure rfl rfl (OpP.move rfl) ?_
  refine JL.pure rfl rfl (OpP.negI rfl (by omega) (by omega)) ?_
  refine JL.step rfl rfl (OpW.call (first := []) (captured := []) inferInstance rfl rfl (Rot_ok (by first | assumption | omega | rfl) (by first | assumption | omega | rfl))) ?_; rintro r21 _ ⟨rfl, rfl⟩
  refine JL.pure rfl rfl (OpP.wXor rfl rfl) ?_
  refine JL.pure rfl rfl (OpP.assign rfl) ?_
  refine JL.nil ?_
  refine J.ret1 rfl rfl ?_
  exact ⟨rfl, rfl⟩
theorem Half_ok {w0 : World} {F : List HProp} {x : BitVec 32} {a b c : Nat} (a0 : 0 < a) (a1 : a < 32) (b0 : 0 < b) (b1 : b < 32) (c0 : 0 < c) (c1 : c < 32) :
    FnO Tryd.prog w0 58 [w32 x, .int .i64 (a : Int), .int .i64 (b : Int), .int .i64 (c : Int)] F (fun v l' => v = w32 (half2 x a b c) ∧ l' = F) := by
  refine FnO.intro (n := 22) Tryd.func58 rfl rfl rfl ?_
  refine J.seq ?_
  refine J.region ?_
  refine JL.pure rfl rfl (OpP.assign rfl) ?_
  refine JL.nil ?_
  refine J.seq ?_
  refine J.regionD [] (by kernel_rfl) ?_
  refine DL.pure (i := 0) (by kernel_rfl) (by kernel_rfl) rfl rfl rfl (OpP.move rfl) ?_
  refine DL.pure (i := 1) (by kernel_rfl) (by kernel_rfl) rfl rfl rfl (OpP.move rfl) ?_
  refine DL.pure (i := 2) (by kernel_rfl) (by kernel_rfl) rfl rfl rfl (OpP.negI rfl (by omega) (by omega)) ?_
  refine DL.pure (i := 4) (by kernel_rfl) (by kernel_rfl) rfl rfl rfl (OpP.move rfl) ?_
  refine DL.pure (i := 5) (by kernel_rfl) (by kernel_rfl) rfl rfl rfl (OpP.move rfl) ?_
  refine DL.pure (i := 6) (by kernel_rfl) (by kernel_rfl) rfl rfl rfl (OpP.negI rfl (by omega) (by omega)) ?_
  refine DL.pure (i := 9) (by kernel_rfl) (by kernel_rfl) rfl rfl rfl (OpP.move rfl) ?_
  refine DL.pure (i := 10) (by kernel_rfl) (by kernel_rfl) rfl rfl rfl (OpP.move rfl) ?_
  refine DL.pure (i := 11) (by kernel_rfl) (by kernel_rfl) rfl rfl rfl (OpP.wShrI rfl rfl (by omega) (by omega)) ?_
  refine DL.only (i := 3) (by kernel_rfl) ?_
  refine DL1.stepF rfl rfl rfl (by kernel_rfl) (by exact OpW.call (first := []) (captured := []) inferInstance rfl rfl (Rot_ok (by first | assumption | omega | rfl) (by first | assumption | omega | rfl))) ?_; rintro r12 _ ⟨rfl, rfl⟩
  refine DL.only (i := 7) (by kernel_rfl) ?_
  refine DL1.stepF rfl rfl rfl (by kernel_rfl) (by exact OpW.call (first := []) (captured := []) inferInstance rfl rfl (Rot_ok (by first | assumption | omega | rfl) (by first | assumption | omega | rfl))) ?_; rintro r16 _ ⟨rfl, rfl⟩
  refine DL.pure (i := 8) (by kernel_rfl) (by kernel_rfl) rfl rfl rfl (OpP.wXor rfl rfl) ?_
  refine DL.pure (i := 12) (by kernel_rfl) (by kernel_rfl) rfl rfl rfl (OpP.wXor rfl rfl) ?_
  refine DL.pure (i := 13) (by kernel_rfl) (by kernel_rfl) rfl rfl rfl (OpP.assign rfl) ?_
  refine DL.done (by kernel_rfl) ?_
  refine J.ret1 rfl rfl ?_
  exact ⟨by rw [half2, show (c : Int).toNat = c by omega], rfl⟩
end Go.Proofs.B
