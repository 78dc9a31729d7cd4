/- A text of the proof of a statement about the given program: its part BPure. No person has read it. -/
import Derived.Test.YtecnolmpdgfnfaaDoorBSha4
namespace Go.Proofs.B
open Go Go.Gp Go.RowKit

/-! What the fingerprint is: words of a block. -/
theorem shl8 (x : BitVec 32) (b : UInt8) {k : Nat} (hk : k < 32) : (x <<< 8 ||| b.toBitVec.setWidth 32).getLsbD k = if k < 8 then b.toBitVec.getLsbD k else x.getLsbD (k - 8) := by
  rw [BitVec.getLsbD_or, BitVec.getLsbD_shiftLeft, BitVec.getLsbD_setWidth]
  by_cases h : k < 8
  · simp [h, hk]
  · have : b.toBitVec.getLsbD k = false := BitVec.getLsbD_of_ge _ _ (by omega)
    simp [h, hk, this]
def part4 (bs : List UInt8) (j : Nat) : Nat → BitVec 32
  | 0 => 0
  | m + 1 => part4 bs j m <<< 8 ||| (bs.getD (4 * j + m) 0).toBitVec.setWidth 32
theorem loadW_part (bs : List UInt8) : ∀ n j, loadW bs n j = part4 bs j (min 4 (n - 4 * j))
  | 0, j => by rw [Nat.zero_sub]; rfl
  | n + 1, j => by
    show upd (loadW bs n) (n / 4) _ j = _
    unfold upd
    by_cases h : j = n / 4
    · subst h
      rw [if_pos rfl, loadW_part bs n, show min 4 (n - 4 * (n / 4)) = n % 4 by omega, show min 4 (n + 1 - 4 * (n / 4)) = n % 4 + 1 by omega]
      show _ = part4 bs (n / 4) (n % 4) <<< 8 ||| (bs.getD (4 * (n / 4) + n % 4) 0).toBitVec.setWidth 32
      rw [show 4 * (n / 4) + n % 4 = n by omega]
    · rw [if_neg h, loadW_part bs n, show min 4 (n + 1 - 4 * j) = min 4 (n - 4 * j) by omega]
theorem loadW_bit (bs : List UInt8) {j k : Nat} (hj : j < 16) (hk : k < 32) : (loadW bs 64 j).getLsbD k = (bs.getD (4 * j + 3 - k / 8) 0).toBitVec.getLsbD (k % 8) := by
  rw [loadW_part, show min 4 (64 - 4 * j) = 4 by omega]
  show ((((part4 bs j 0 <<< 8 ||| _) <<< 8 ||| _) <<< 8 ||| _) <<< 8 ||| _ : BitVec 32).getLsbD k = _
  rw [shl8 _ _ hk]
  by_cases h1 : k < 8
  · rw [if_pos h1, show 4 * j + 3 - k / 8 = 4 * j + 3 by omega, show k % 8 = k by omega]
  · rw [if_neg h1, shl8 _ _ (by omega)]
    by_cases h2 : k - 8 < 8
    · rw [if_pos h2, show 4 * j + 3 - k / 8 = 4 * j + 2 by omega, show k % 8 = k - 8 by omega]
    · rw [if_neg h2, shl8 _ _ (by omega)]
      by_cases h3 : k - 8 - 8 < 8
      · rw [if_pos h3, show 4 * j + 3 - k / 8 = 4 * j + 1 by omega, show k % 8 = k - 8 - 8 by omega]
      · rw [if_neg h3, shl8 _ _ (by omega), if_pos (by omega), show 4 * j + 3 - k / 8 = 4 * j + 0 by omega, show k % 8 = k - 8 - 8 - 8 by omega]

/-- The schedule behind some rounds. -/
def srun (S : Ws) : Nat → Ws
  | 0 => S
  | i + 1 => sched (srun S i) i
/-- The word of a round. -/
def Wd (S : Ws) (j : Nat) : BitVec 32 := srun S (j + 1) (j % 16)
theorem rnds_S (K : Ws) (r : Rnd) : ∀ i, (rnds K r i).S = srun r.S i
  | 0 => rfl
  | i + 1 => by
    show sched (rnds K r i).S i = sched (srun r.S i) i
    rw [rnds_S K r i]
theorem srun_lo (S : Ws) : ∀ i, i ≤ 16 → srun S i = S
  | 0, _ => rfl
  | i + 1, h => by
    show sched (srun S i) i = S
    rw [srun_lo S i (by omega), sched, if_neg (by omega)]
theorem sched_ne (S : Ws) {i k : Nat} (h : k ≠ i % 16) : sched S i k = S k := by
  unfold sched
  split
  · unfold upd; rw [if_neg h]
  · rfl
theorem srun_at (S : Ws) (p : Nat) : ∀ d, d < 16 → srun S (p + 1 + d) (p % 16) = Wd S p
  | 0, _ => rfl
  | d + 1, h => by
    show sched (srun S (p + 1 + d)) (p + 1 + d) (p % 16) = _
    rw [sched_ne _ (by omega), srun_at S p d (by omega)]
theorem srun_mod (S : Ws) {i p k : Nat} (h1 : p < i) (h2 : i ≤ p + 16) (hk : k = p % 16) : srun S i k = Wd S p := by
  subst hk
  have := srun_at S p (i - p - 1) (by omega)
  rwa [show p + 1 + (i - p - 1) = i by omega] at this
theorem Wd_lo (S : Ws) {j : Nat} (h : j < 16) : Wd S j = S j := by
  rw [Wd, srun_lo S _ (by omega), show j % 16 = j by omega]
theorem Wd_hi (S : Ws) {j : Nat} (h : 16 ≤ j) : Wd S j = Wd S (j - 16) + half2 (Wd S (j - 15)) 7 18 3 + Wd S (j - 7) + half2 (Wd S (j - 2)) 17 19 10 := by
  show sched (srun S j) j (j % 16) = _
  rw [sched, if_pos h]
  unfold upd
  rw [if_pos rfl, srun_mod S (p := j - 16) (by omega) (by omega) (by omega), srun_mod S (p := j - 15) (by omega) (by omega) (by omega), srun_mod S (p := j - 7) (by omega) (by omega) (by omega), srun_mod S (p := j - 2) (by omega) (by omega) (by omega)]
  simp only [BitVec.add_assoc]

/-- A round by the definition. -/
def refT (K W : Ws) (i : Nat) (U : Ws) : BitVec 32 := U 7 + turn3 (U 4) 6 11 25 + (U 6 ^^^ (U 4 &&& (U 5 ^^^ U 6))) + K i + W i
def refU (U : Ws) : BitVec 32 := turn3 (U 0) 2 13 22 + (U 0 &&& U 1 ||| U 2 &&& (U 0 ||| U 1))
def refR (K W : Ws) (i : Nat) (U : Ws) : Ws := fun j => if j = 0 then refT K W i U + refU U else if j = 4 then U 3 + refT K W i U else U (j - 1)
def refRs (K W : Ws) (U : Ws) : Nat → Ws
  | 0 => U
  | i + 1 => refR K W i (refRs K W U i)
theorem rnds_ref (K V S : Ws) : ∀ i, i ≤ 64 → ∀ j, j < 8 → refRs K (Wd S) V i j = (rnds K ⟨S, V⟩ i).V (((64 - i) % 8 + j) % 8)
  | 0, _, j, hj => by
    show V j = V _
    rw [show ((64 - 0) % 8 + j) % 8 = j by omega]
  | i + 1, hi, j, hj => by
    have ih := rnds_ref K V S i (by omega)
    have hS : (rnds K ⟨S, V⟩ i).S = srun S i := rnds_S K _ i
    show refR K (Wd S) i (refRs K (Wd S) V i) j = (rnd1 K i (rnds K ⟨S, V⟩ i)).V _
    generalize refRs K (Wd S) V i = U at ih ⊢
    generalize rnds K ⟨S, V⟩ i = r at ih hS ⊢
    have hk : (64 - i) % 8 < 8 := by omega
    have hk' : (64 - (i + 1)) % 8 = ((64 - i) % 8 + 7) % 8 := by omega
    rw [hk']
    have hr : rnd1 K i r = ⟨sched r.S i, upd (upd r.V (((64 - i) % 8 + 3) % 8) (r.V (((64 - i) % 8 + 3) % 8) + rndT K i ((64 - i) % 8) r)) (((64 - i) % 8 + 7) % 8) (rndT K i ((64 - i) % 8) r + rndU ((64 - i) % 8) r.V + rndM ((64 - i) % 8) r.V)⟩ := rfl
    rw [hr]
    generalize (64 - i) % 8 = k at ih hk ⊢
    have hT : rndT K i k r = refT K (Wd S) i U := by
      rw [rndT, refT, ih 7 (by omega), ih 4 (by omega), ih 5 (by omega), ih 6 (by omega), hS]
      rfl
    have hU : rndT K i k r + rndU k r.V + rndM k r.V = refT K (Wd S) i U + refU U := by
      rw [hT, refU, rndU, rndM, ih 0 (by omega), ih 1 (by omega), ih 2 (by omega), BitVec.add_assoc, show (k + 0) % 8 = k by omega]
    rw [hU, hT]
    show (if j = 0 then refT K (Wd S) i U + refU U else if j = 4 then U 3 + refT K (Wd S) i U else U (j - 1)) = (if ((k + 7) % 8 + j) % 8 = (k + 7) % 8 then refT K (Wd S) i U + refU U else if ((k + 7) % 8 + j) % 8 = (k + 3) % 8 then r.V ((k + 3) % 8) + refT K (Wd S) i U else r.V (((k + 7) % 8 + j) % 8))
    by_cases h0 : j = 0
    · have e1 : ((k + 7) % 8 + j) % 8 = (k + 7) % 8 := by omega
      rw [if_pos h0, if_pos e1]
    · have e1 : ¬ ((k + 7) % 8 + j) % 8 = (k + 7) % 8 := by omega
      rw [if_neg h0, if_neg e1]
      by_cases h4 : j = 4
      · have e2 : ((k + 7) % 8 + j) % 8 = (k + 3) % 8 := by omega
        rw [if_pos h4, if_pos e2, ih 3 (by omega)]
      · have e2 : ¬ ((k + 7) % 8 + j) % 8 = (k + 3) % 8 := by omega
        rw [if_neg h4, if_neg e2, ih (j - 1) (by omega), show (k + (j - 1)) % 8 = ((k + 7) % 8 + j) % 8 by omega]
theorem mix_ref (K V : Ws) (bs : List UInt8) {j : Nat} (hj : j < 8) : mixW K V bs j = V j + refRs K (Wd (loadW bs 64)) V 64 j := by
  rw [rnds_ref K V _ 64 (by omega) j hj, mixW, show ((64 - 64) % 8 + j) % 8 = j by omega]

/-! What is put behind a text. -/
def be8 (m : Nat) : List UInt8 := (List.range 8).map fun i => UInt8.ofNat (m / 256 ^ (7 - i))
def padP (n : Nat) : List UInt8 := 128 :: (List.replicate ((119 - n % 64) % 64) 0 ++ be8 (8 * n))
def bytesV (V : Ws) : List UInt8 := (List.range 32).map fun j => UInt8.ofBitVec ((V (j / 4) >>> (24 - 8 * (j % 4))).setWidth 8)
theorem bytesV_cells (V : Ws) : fc 32 (byteOf V) = bcells (bytesV V) := by
  rw [bcells, bytesV, List.map_map]; rfl
/-- The fingerprint. -/
def shaB (K : Ws) (text : List UInt8) : List UInt8 := bytesV (stV K (text ++ padP text.length))
theorem shaB_length (K : Ws) (text : List UInt8) : (shaB K text).length = 32 := by simp [shaB, bytesV]
theorem be8_length (m : Nat) : (be8 m).length = 8 := by simp [be8]
theorem padP_length (n : Nat) : (padP n).length = 9 + (119 - n % 64) % 64 := by simp [padP, be8_length]; omega
theorem pad_blocks (text : List UInt8) : (text ++ padP text.length).length = 64 * ((text.length + 72) / 64) := by
  rw [List.length_append, padP_length]; omega
end Go.Proofs.B
