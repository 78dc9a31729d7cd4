/- A text of the proof of a statement about the given program: its part BRef4. No person has read it. -/
import Derived.Test.YtecnolmpdgfnfaaDoorBRef3
import Derived.Test.YtecnolmpdgfnfaaDoorJ24
-- seat b
namespace Go.Proofs.B
open Go Go.Gp Go.RowKit

def hexOk (s : ByteArray) (n : Nat) (x : BitVec 32) : Bool := (List.range 8).all fun i => match s[8 * n + 7 - i]? with
  | some c => (decide (48 ≤ c.toNat) && decide (c.toNat ≤ 57) || decide (97 ≤ c.toNat) && decide (c.toNat ≤ 102)) && digV c.toNat == x.toNat / 16 ^ i % 16
  | none => false
theorem hexOk_spec {s : ByteArray} {n : Nat} {x : BitVec 32} (h : hexOk s n x = true) : ∀ i, i < 8 → ∃ c : UInt8, s[8 * n + 7 - i]? = some c ∧ IsHex c.toNat ∧ digV c.toNat = x.toNat / 16 ^ i % 16 := by
  intro i hi
  have h := (List.all_eq_true.1 h) i (List.mem_range.2 hi)
  split at h
  · rename_i c hc
    simp only [Bool.and_eq_true, Bool.or_eq_true, decide_eq_true_eq, beq_iff_eq] at h
    exact ⟨c, hc, h.1, h.2⟩
  · cases h
set_option maxRecDepth 100000 in
def cK0 : List UInt8 := [52, 50, 56, 97, 50, 102, 57, 56, 55, 49, 51, 55, 52, 52, 57, 49, 98, 53, 99, 48, 102, 98, 99, 102, 101, 57, 98, 53, 100, 98, 97, 53, 51, 57, 53, 54, 99, 50, 53, 98, 53, 57, 102, 49, 49, 49, 102, 49, 57, 50, 51, 102, 56, 50, 97, 52, 97, 98, 49, 99, 53, 101, 100, 53]
set_option maxRecDepth 100000 in
def cK1 : List UInt8 := [100, 56, 48, 55, 97, 97, 57, 56, 49, 50, 56, 51, 53, 98, 48, 49, 50, 52, 51, 49, 56, 53, 98, 101, 53, 53, 48, 99, 55, 100, 99, 51, 55, 50, 98, 101, 53, 100, 55, 52, 56, 48, 100, 101, 98, 49, 102, 101, 57, 98, 100, 99, 48, 54, 97, 55, 99, 49, 57, 98, 102, 49, 55, 52]
set_option maxRecDepth 100000 in
def cK2 : List UInt8 := [101, 52, 57, 98, 54, 57, 99, 49, 101, 102, 98, 101, 52, 55, 56, 54, 48, 102, 99, 49, 57, 100, 99, 54, 50, 52, 48, 99, 97, 49, 99, 99, 50, 100, 101, 57, 50, 99, 54, 102, 52, 97, 55, 52, 56, 52, 97, 97, 53, 99, 98, 48, 97, 57, 100, 99, 55, 54, 102, 57, 56, 56, 100, 97]
set_option maxRecDepth 100000 in
def cK3 : List UInt8 := [57, 56, 51, 101, 53, 49, 53, 50, 97, 56, 51, 49, 99, 54, 54, 100, 98, 48, 48, 51, 50, 55, 99, 56, 98, 102, 53, 57, 55, 102, 99, 55, 99, 54, 101, 48, 48, 98, 102, 51, 100, 53, 97, 55, 57, 49, 52, 55, 48, 54, 99, 97, 54, 51, 53, 49, 49, 52, 50, 57, 50, 57, 54, 55]
set_option maxRecDepth 100000 in
def cK4 : List UInt8 := [50, 55, 98, 55, 48, 97, 56, 53, 50, 101, 49, 98, 50, 49, 51, 56, 52, 100, 50, 99, 54, 100, 102, 99, 53, 51, 51, 56, 48, 100, 49, 51, 54, 53, 48, 97, 55, 51, 53, 52, 55, 54, 54, 97, 48, 97, 98, 98, 56, 49, 99, 50, 99, 57, 50, 101, 57, 50, 55, 50, 50, 99, 56, 53]
set_option maxRecDepth 100000 in
def cK5 : List UInt8 := [97, 50, 98, 102, 101, 56, 97, 49, 97, 56, 49, 97, 54, 54, 52, 98, 99, 50, 52, 98, 56, 98, 55, 48, 99, 55, 54, 99, 53, 49, 97, 51, 100, 49, 57, 50, 101, 56, 49, 57, 100, 54, 57, 57, 48, 54, 50, 52, 102, 52, 48, 101, 51, 53, 56, 53, 49, 48, 54, 97, 97, 48, 55, 48]
set_option maxRecDepth 100000 in
def cK6 : List UInt8 := [49, 57, 97, 52, 99, 49, 49, 54, 49, 101, 51, 55, 54, 99, 48, 56, 50, 55, 52, 56, 55, 55, 52, 99, 51, 52, 98, 48, 98, 99, 98, 53, 51, 57, 49, 99, 48, 99, 98, 51, 52, 101, 100, 56, 97, 97, 52, 97, 53, 98, 57, 99, 99, 97, 52, 102, 54, 56, 50, 101, 54, 102, 102, 51]
set_option maxRecDepth 100000 in
def cK7 : List UInt8 := [55, 52, 56, 102, 56, 50, 101, 101, 55, 56, 97, 53, 54, 51, 54, 102, 56, 52, 99, 56, 55, 56, 49, 52, 56, 99, 99, 55, 48, 50, 48, 56, 57, 48, 98, 101, 102, 102, 102, 97, 97, 52, 53, 48, 54, 99, 101, 98, 98, 101, 102, 57, 97, 51, 102, 55, 99, 54, 55, 49, 55, 56, 102, 50]
/-- The digits of the rounds' words. -/
def constS : ByteArray := ⟨(((cK0.append cK1).append (cK2.append cK3)).append ((cK4.append cK5).append (cK6.append cK7))).toArray⟩
set_option maxRecDepth 100000 in
/-- The digits of the words at the beginning. -/
def beginS : ByteArray := ⟨#[54, 97, 48, 57, 101, 54, 54, 55, 98, 98, 54, 55, 97, 101, 56, 53, 51, 99, 54, 101, 102, 51, 55, 50, 97, 53, 52, 102, 102, 53, 51, 97, 53, 49, 48, 101, 53, 50, 55, 102, 57, 98, 48, 53, 54, 56, 56, 99, 49, 102, 56, 51, 100, 57, 97, 98, 53, 98, 101, 48, 99, 100, 49, 57]⟩
/-- The words of the rounds. -/
def Kn : Nat := 0x428a2f9871374491b5c0fbcfe9b5dba53956c25b59f111f1923f82a4ab1c5ed5d807aa9812835b01243185be550c7dc372be5d7480deb1fe9bdc06a7c19bf174e49b69c1efbe47860fc19dc6240ca1cc2de92c6f4a7484aa5cb0a9dc76f988da983e5152a831c66db00327c8bf597fc7c6e00bf3d5a7914706ca63511429296727b70a852e1b21384d2c6dfc53380d13650a7354766a0abb81c2c92e92722c85a2bfe8a1a81a664bc24b8b70c76c51a3d192e819d6990624f40e3585106aa07019a4c1161e376c082748774c34b0bcb5391c0cb34ed8aa4a5b9cca4f682e6ff3748f82ee78a5636f84c878148cc7020890befffaa4506cebbef9a3f7c67178f2
def Kc : Ws := fun j => BitVec.ofNat 32 (Kn / 2 ^ (32 * (63 - j)))
theorem hexK : (List.range 64).all (fun i => hexOk constS i (Kc i)) = true := by decide +kernel
theorem hexB : (List.range 8).all (fun i => hexOk beginS i (begins i)) = true := by decide +kernel
end Go.Proofs.B
