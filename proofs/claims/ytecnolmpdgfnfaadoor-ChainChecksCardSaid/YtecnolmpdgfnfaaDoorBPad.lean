/- A text of the proof of a statement about the given program: its part BPad. No person has read it. -/
import Derived.Test.YtecnolmpdgfnfaaDoorBPure
namespace Go.Proofs.B
open Go Go.Gp Go.RowKit

/-- What is put behind a text, some bytes of its size written. -/
def padT (text : List UInt8) (t : Nat) : List UInt8 := text ++ 128 :: (List.replicate ((119 - text.length % 64) % 64 + (8 - t)) 0 ++ (be8 (8 * text.length)).drop (8 - t))
theorem padT_length (text : List UInt8) {t : Nat} (ht : t ≤ 8) : (padT text t).length = 64 * ((text.length + 72) / 64) := by
  rw [padT, List.length_append, List.length_cons, List.length_append, List.length_replicate, List.length_drop, be8_length]; omega
theorem padT_zero (text : List UInt8) : padT text 0 = (text ++ List.replicate (64 * ((text.length + 72) / 64) - text.length) 0).set text.length 128 := by
  rw [List.set_append_right _ _ (Nat.le_refl _), Nat.sub_self, padT]
  congr 1
  have e : 64 * ((text.length + 72) / 64) - text.length = ((119 - text.length % 64) % 64 + 8) + 1 := by omega
  rw [e, List.drop_of_length_le (by rw [be8_length]; omega), List.append_nil]
  rfl
theorem be8_at {m i : Nat} (h : i < 8) : (be8 m)[i]? = some (UInt8.ofNat (m / 256 ^ (7 - i))) := by
  simp [be8, h]
theorem padT_succ (text : List UInt8) {t : Nat} (ht : t < 8) : (padT text t).set (64 * ((text.length + 72) / 64) - 1 - t) (UInt8.ofNat (8 * text.length / 256 ^ t)) = padT text (t + 1) := by
  have hz := Nat.mod_lt (119 - text.length % 64) (show 0 < 64 by decide)
  have e1 : 64 * ((text.length + 72) / 64) - 1 - t = text.length + (1 + ((119 - text.length % 64) % 64 + (7 - t))) := by omega
  rw [e1]
  unfold padT
  rw [List.set_append_right _ _ (by omega), Nat.add_sub_cancel_left, Nat.add_comm 1, List.set_cons_succ]
  congr 2
  have e2 : (119 - text.length % 64) % 64 + (8 - t) = (119 - text.length % 64) % 64 + (7 - t) + 1 := by omega
  rw [e2, List.replicate_succ', List.append_assoc, List.set_append_right _ _ (by rw [List.length_replicate]; omega), List.length_replicate, Nat.sub_self]
  rw [show 8 - (t + 1) = 7 - t by omega]
  congr 1
  show (0 :: (be8 (8 * text.length)).drop (8 - t)).set 0 _ = _
  rw [List.set_cons_zero, List.drop_eq_getElem_cons (i := 7 - t) (by rw [be8_length]; omega), show 7 - t + 1 = 8 - t by omega]
  congr 1
  have h := be8_at (m := 8 * text.length) (i := 7 - t) (by omega)
  rw [List.getElem?_eq_getElem (by rw [be8_length]; omega)] at h
  injection h with h
  rw [h, show 7 - (7 - t) = t by omega]
theorem padT_end (text : List UInt8) {t : Nat} (ht : t ≤ 8) (h0 : 8 * text.length / 256 ^ t = 0) : padT text t = text ++ padP text.length := by
  unfold padT padP
  congr 2
  have e : be8 (8 * text.length) = List.replicate (8 - t) 0 ++ (be8 (8 * text.length)).drop (8 - t) := by
    conv => lhs; rw [← List.take_append_drop (8 - t) (be8 (8 * text.length))]
    congr 1
    apply List.ext_getElem?
    intro i
    rw [List.getElem?_take, List.getElem?_replicate]
    by_cases hi : i < 8 - t
    · rw [if_pos hi, if_pos hi, be8_at (by omega)]
      have : 8 * text.length / 256 ^ (7 - i) = 0 := by
        have h1 : 8 * text.length < 256 ^ t := by
          rcases Nat.lt_or_ge (8 * text.length) (256 ^ t) with h | h
          · exact h
          · have := Nat.div_pos h (Nat.pow_pos (by decide)); omega
        exact Nat.div_eq_of_lt (Nat.lt_of_lt_of_le h1 (Nat.pow_le_pow_right (by decide) (by omega)))
      rw [this]
      rfl
    · rw [if_neg hi, if_neg hi]
  conv => rhs; rw [e]
  rw [← List.append_assoc, List.replicate_append_replicate]

/-! A byte's upper truths. -/
def topB (x : UInt8) (m : Nat) : UInt8 := x &&& UInt8.ofNat (65280 / 2 ^ m)
theorem topB_fin : ∀ (x : Fin 256) (m : Fin 8), topB (UInt8.ofNat x.val) (m.val + 1) = if x.val.testBit (7 - m.val) then topB (UInt8.ofNat x.val) m.val ||| UInt8.ofNat (128 / 2 ^ m.val) else topB (UInt8.ofNat x.val) m.val := by decide +kernel
theorem topB_succ (x : UInt8) {m : Nat} (hm : m < 8) : topB x (m + 1) = if x.toNat.testBit (7 - m) then topB x m ||| UInt8.ofNat (128 / 2 ^ m) else topB x m := by
  have h := topB_fin ⟨x.toNat, x.toNat_lt⟩ ⟨m, hm⟩
  simpa using h
theorem topB_all (x : UInt8) : topB x 8 = x := by
  have h : ∀ x : Fin 256, topB (UInt8.ofNat x.val) 8 = UInt8.ofNat x.val := by decide +kernel
  simpa using h ⟨x.toNat, x.toNat_lt⟩
theorem topB_none (x : UInt8) : topB x 0 = 0 := by
  have h : ∀ x : Fin 256, topB (UInt8.ofNat x.val) 0 = 0 := by decide +kernel
  simpa using h ⟨x.toNat, x.toNat_lt⟩
def outB (V : Ws) (q : Nat) : UInt8 := UInt8.ofBitVec ((V (q / 4) >>> (24 - 8 * (q % 4))).setWidth 8)
theorem outB_bit (V : Ws) {i : Nat} : (outB V (i / 8)).toNat.testBit (7 - i % 8) = (V (i / 32)).getLsbD (31 - i % 32) := by
  show ((V (i / 8 / 4) >>> (24 - 8 * (i / 8 % 4))).setWidth 8).getLsbD (7 - i % 8) = _
  rw [BitVec.getLsbD_setWidth, BitVec.getLsbD_ushiftRight, show i / 8 / 4 = i / 32 by omega, show 24 - 8 * (i / 8 % 4) + (7 - i % 8) = 31 - i % 32 by omega]
  simp
  omega
def outP (V : Ws) (i q : Nat) : UInt8 := topB (outB V q) (min 8 (i - 8 * q))
theorem outP_ne (V : Ws) {i q : Nat} (h : q ≠ i / 8) : outP V (i + 1) q = outP V i q := by
  rw [outP, outP, show min 8 (i + 1 - 8 * q) = min 8 (i - 8 * q) by omega]
theorem outP_at (V : Ws) (i : Nat) : outP V (i + 1) (i / 8) = if (V (i / 32)).getLsbD (31 - i % 32) then outP V i (i / 8) ||| UInt8.ofNat (128 / 2 ^ (i % 8)) else outP V i (i / 8) := by
  rw [outP, outP, show min 8 (i + 1 - 8 * (i / 8)) = i % 8 + 1 by omega, show min 8 (i - 8 * (i / 8)) = i % 8 by omega, topB_succ _ (by omega), outB_bit]
theorem outP_end (V : Ws) {q : Nat} (hq : q < 32) : u8c (outP V 256 q) = byteOf V q := by
  rw [outP, show min 8 (256 - 8 * q) = 8 by omega, topB_all]; rfl
end Go.Proofs.B
