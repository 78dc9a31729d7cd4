/- A text of the proof of a statement about the given program: its part J21. No person has read it. -/
import Derived.Test.YtecnolmpdgfnfaaDoorJ20
/-! Words of 32 bits. -/
namespace Go.Gp
open Go

def w32 (x : BitVec 32) : Value := .int .u32 (x.toNat : Int)
theorem wrap_u32 (a : Int) : IntKind.u32.wrap a = a % 4294967296 := by
  simp [IntKind.wrap, IntKind.signed, IntKind.bits]
section
variable {P : Program} {env : Env} {dst : Option Tmp} {ty : TypeId} {pos : String} {after : Array Edge} {g : Option (Nat × Bool)}
theorem OpP.wAdd {x y : Operand} {t u : TypeId} {a b : BitVec 32} (hx : ev env x = some (w32 a)) (hy : ev env y = some (w32 b)) : OpP P ⟨dst, .binOp .add t x y u, ty, pos, after, g⟩ env (w32 (a + b)) :=
  (OpP.add hx hy).as (by
    rw [wrap_u32, w32, BitVec.toNat_add, Int.natCast_emod, Int.natCast_add]; rfl)
theorem ofInt32 (a : BitVec 32) : BitVec.ofInt IntKind.u32.bits (a.toNat : Int) = a := by
  show BitVec.ofInt 32 (a.toNat : Int) = a
  rw [BitVec.ofInt_natCast, BitVec.ofNat_toNat, BitVec.setWidth_eq]
theorem wBits {op : BinOp} {x y : Operand} {t u : TypeId} {a b c : BitVec 32} (hx : ev env x = some (w32 a)) (hy : ev env y = some (w32 b)) (hop : (match op with | .and | .or | .xor | .andNot => true | _ => false) = true)
    (hc : ∀ w, (Op.intBits op .u32 (a.toNat : Int) (b.toNat : Int)).run P w = .ok (.int .u32 (IntKind.u32.wrap (c.toNat : Int))) w) : OpP P ⟨dst, .binOp op t x y u, ty, pos, after, g⟩ env (w32 c) :=
  OpP.bits hx hy hop fun w => by
    rw [hc w, wrap_u32, w32]
    have := c.isLt
    rw [Int.emod_eq_of_lt (by omega) (by omega)]
theorem OpP.wXor {x y : Operand} {t u : TypeId} {a b : BitVec 32} (hx : ev env x = some (w32 a)) (hy : ev env y = some (w32 b)) : OpP P ⟨dst, .binOp .xor t x y u, ty, pos, after, g⟩ env (w32 (a ^^^ b)) :=
  wBits hx hy rfl fun w => by
    have h1 := ofInt32 a
    have h2 := ofInt32 b
    simp only [Op.intBits, h1, h2]; rfl
theorem OpP.wAnd {x y : Operand} {t u : TypeId} {a b : BitVec 32} (hx : ev env x = some (w32 a)) (hy : ev env y = some (w32 b)) : OpP P ⟨dst, .binOp .and t x y u, ty, pos, after, g⟩ env (w32 (a &&& b)) :=
  wBits hx hy rfl fun w => by
    have h1 := ofInt32 a
    have h2 := ofInt32 b
    simp only [Op.intBits, h1, h2]; rfl
theorem OpP.wOr {x y : Operand} {t u : TypeId} {a b : BitVec 32} (hx : ev env x = some (w32 a)) (hy : ev env y = some (w32 b)) : OpP P ⟨dst, .binOp .or t x y u, ty, pos, after, g⟩ env (w32 (a ||| b)) :=
  wBits hx hy rfl fun w => by
    have h1 := ofInt32 a
    have h2 := ofInt32 b
    simp only [Op.intBits, h1, h2]; rfl
theorem shl32 (a : BitVec 32) (m : Nat) : IntKind.u32.wrap ((a.toNat : Int) * 2 ^ m) = ((a <<< m).toNat : Int) := by
  rw [wrap_u32, BitVec.toNat_shiftLeft, Nat.shiftLeft_eq, Int.natCast_emod, Int.natCast_mul, Int.natCast_pow]; rfl
theorem shr32 (a : BitVec 32) (m : Nat) : Int.fdiv (a.toNat : Int) (2 ^ m) = ((a >>> m).toNat : Int) := by
  have h : (2 : Int) ^ m = ((2 ^ m : Nat) : Int) := by rw [Int.natCast_pow]; rfl
  rw [BitVec.toNat_ushiftRight, Nat.shiftRight_eq_div_pow, h, Int.fdiv_eq_ediv_of_nonneg _ (Int.natCast_nonneg _), Int.natCast_ediv]
theorem OpP.wShl {x y : Operand} {t u : TypeId} {k : IntKind} {a : BitVec 32} {n : Int} (m : Nat) (hx : ev env x = some (w32 a)) (hy : ev env y = some (.int k n)) (hn : n = m) (hm : m ≤ 32) : OpP P ⟨dst, .binOp .shl t x y u, ty, pos, after, g⟩ env (w32 (a <<< m)) :=
  OpP.shift hx hy rfl fun w => by
    subst hn
    have e : Min.min (m : Int).toNat 32 = m := by rw [Int.toNat_natCast]; exact Nat.min_eq_left hm
    have e2 := shl32 a m
    simp only [Op.shift, if_neg (show ¬ (m : Int) < 0 from Int.not_lt.2 (Int.natCast_nonneg _)), IntKind.bits, e, e2]; rfl
theorem OpP.wShr {x y : Operand} {t u : TypeId} {k : IntKind} {a : BitVec 32} {n : Int} (m : Nat) (hx : ev env x = some (w32 a)) (hy : ev env y = some (.int k n)) (hn : n = m) (hm : m ≤ 32) : OpP P ⟨dst, .binOp .shr t x y u, ty, pos, after, g⟩ env (w32 (a >>> m)) :=
  OpP.shift hx hy rfl fun w => by
    subst hn
    have e : Min.min (m : Int).toNat 32 = m := by rw [Int.toNat_natCast]; exact Nat.min_eq_left hm
    have e2 := shr32 a m
    simp only [Op.shift, if_neg (show ¬ (m : Int) < 0 from Int.not_lt.2 (Int.natCast_nonneg _)), IntKind.bits, e, e2]; rfl
theorem OpP.wOfByte {x : Operand} {s d : TypeId} {a : UInt8} [IntT P s .u8] [IntT P d .u32] (hx : ev env x = some (u8c a)) : OpP P ⟨dst, .convert s d x, ty, pos, after, g⟩ env (w32 (a.toBitVec.setWidth 32)) :=
  (OpP.conv (ks := .u8) hx).as (by
    rw [wrap_u32, w32]
    have := a.toNat_lt
    have e : (a.toBitVec.setWidth 32).toNat = a.toNat := by
      rw [BitVec.toNat_setWidth]; exact Nat.mod_eq_of_lt (by have : a.toBitVec.toNat = a.toNat := rfl; omega)
    rw [e, Int.emod_eq_of_lt (by omega) (by omega)])
theorem OpP.wToByte {x : Operand} {s d : TypeId} {a : BitVec 32} [IntT P s .u32] [IntT P d .u8] (hx : ev env x = some (w32 a)) : OpP P ⟨dst, .convert s d x, ty, pos, after, g⟩ env (u8c (UInt8.ofBitVec (a.setWidth 8))) :=
  (OpP.conv (ks := .u32) hx).as (by
    show Value.int .u8 (IntKind.u8.wrap (a.toNat : Int)) = _
    rw [u8c]
    have e : (UInt8.ofBitVec (a.setWidth 8)).toNat = a.toNat % 256 := by
      show (a.setWidth 8).toNat = _
      rw [BitVec.toNat_setWidth]
    have e2 : IntKind.u8.wrap (a.toNat : Int) = (a.toNat : Int) % 256 := by simp [IntKind.wrap, IntKind.signed, IntKind.bits]
    rw [e2, e, Int.natCast_emod]; rfl)
end
end Go.Gp
