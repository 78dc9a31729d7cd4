/- A text of the proof of a statement about the given program: its part FA3. No person has read it. -/
import Derived.Test.YtoailinfboehlaaDoorFA2
import Derived.Test.YtoailinfboehlaaDoorFJ2
import Derived.Test.YtoailinfboehlaaDoorFA1
-- seat f
namespace Go.Proofs.F
open Go Go.Gp Go.RowKit

/-! The reference's words: 32 truths. -/
end Go.Proofs.F

-- seat f
namespace Go.Proofs.F
open Go Go.Gp Go.RowKit

end Go.Proofs.F

-- seat f
namespace Go.Proofs.F
open Go Go.Gp Go.RowKit

end Go.Proofs.F

-- seat f
namespace Go.Proofs.F
open Go Go.Gp Go.RowKit

/-- The words of the rounds. -/
def Kn : Nat := 0x428a2f9871374491b5c0fbcfe9b5dba53956c25b59f111f1923f82a4ab1c5ed5d807aa9812835b01243185be550c7dc372be5d7480deb1fe9bdc06a7c19bf174e49b69c1efbe47860fc19dc6240ca1cc2de92c6f4a7484aa5cb0a9dc76f988da983e5152a831c66db00327c8bf597fc7c6e00bf3d5a7914706ca63511429296727b70a852e1b21384d2c6dfc53380d13650a7354766a0abb81c2c92e92722c85a2bfe8a1a81a664bc24b8b70c76c51a3d192e819d6990624f40e3585106aa07019a4c1161e376c082748774c34b0bcb5391c0cb34ed8aa4a5b9cca4f682e6ff3748f82ee78a5636f84c878148cc7020890befffaa4506cebbef9a3f7c67178f2
def Kc : Ws := fun j => BitVec.ofNat 32 (Kn / 2 ^ (32 * (63 - j)))
end Go.Proofs.F

-- seat f
namespace Go.Proofs.F
open Go Go.Gp Go.RowKit

end Go.Proofs.F

-- seat f
namespace Go.Proofs.F
open Go Go.Gp Go.RowKit

end Go.Proofs.F

-- seat f
namespace Go.Proofs.F
open Go Go.Gp Go.RowKit

end Go.Proofs.F

-- seat f
namespace Go.Proofs.F
open Go Go.Gp Go.RowKit

end Go.Proofs.F

-- seat f
namespace Go.Proofs.F
open Go Go.Gp Go.RowKit

def be4 (n : Nat) : List UInt8 := [UInt8.ofNat (n / 16777216), UInt8.ofNat (n / 65536), UInt8.ofNat (n / 256), UInt8.ofNat n]
/-- What a link is the fingerprint of. -/
def linkT (p rc : List UInt8) : List UInt8 := p ++ (be4 rc.length ++ rc)
theorem cat_link {a b c : Value} {p q rc : List UInt8} : cat [(a, p), (b, q), (c, rc)] = p ++ (q ++ rc) := by
  show p ++ (q ++ (rc ++ [])) = _
  rw [List.append_nil]
theorem Link_ok {w0 : World} {F : List HProp} {p rc : List UInt8} {v : Value} {K : Ws} (hK : Tab w0 0 64 fun j => w32 (K j)) (hp : p.length = 32) (hl : rc.length ≤ 800000) (hr : RdO w0 F v rc.length (bcells rc)) :
    FnO Tryd.prog w0 54 [.agg (bcells p).toArray, v] F (fun r l' => r = .agg (bcells (shaB K (linkT p rc))).toArray ∧ l' = F) := by
  refine FnO.rdF (fun _ h => h) hr fun hr0 => ?_
  obtain ⟨va, vc, rfl⟩ := hr0.lit
  refine FnO.weak ?_
  refine FnO.intro (n := 25) Tryd.func54 rfl rfl rfl ?_
  have hs : rc.length ≤ 4294967295 := by omega
  have hl2 : ∀ h : True, rc.length ≤ 800000 := fun _ => hl
  clear hl
  refine J.seq ?_
  refine J.region ?_
  refine JL.mem rfl rfl (OpM.box rfl rfl) ?_; rintro _ _ ⟨b2, rfl, rfl⟩
  refine JL.mem rfl rfl OpM.alloc ?_; rintro _ _ ⟨b4, rfl, rfl⟩
  refine JL.nil ?_
  refine J.seq ?_
  refine J.region ?_
  refine JL.pure rfl rfl (OpP.move rfl) ?_
  refine JL.pure rfl rfl (OpP.len rfl rfl) ?_
  refine JL.pure rfl rfl (OpP.convI rfl (by simp [IntKind.min, IntKind.max, IntKind.signed, IntKind.bits] <;> omega) (by simp [IntKind.min, IntKind.max, IntKind.signed, IntKind.bits] <;> omega)) ?_
  refine JL.pure rfl rfl (OpP.assign rfl) ?_
  refine JL.nil ?_
  refine J.seq ?_
  refine J.region ?_
  refine JL.pure rfl rfl (OpP.sliceA rfl rfl rfl (by first | exact .inl ⟨rfl, rfl⟩ | exact .inr ⟨_, rfl⟩) (by first | exact .inl ⟨rfl, rfl⟩ | exact .inr ⟨_, rfl⟩) (by omega) (by omega)) ?_
  refine JL.pure rfl rfl (OpP.move rfl) ?_
  refine JL.pure rfl rfl (OpP.shrN rfl rfl (by omega) (by first | decide | (simp only [IntKind.bits]; omega))) ?_
  refine JL.pure rfl rfl (OpP.convI rfl (by simp [IntKind.min, IntKind.max, IntKind.signed, IntKind.bits] <;> omega) (by simp [IntKind.min, IntKind.max, IntKind.signed, IntKind.bits] <;> omega)) ?_
  refine JL.pure rfl rfl (OpP.move rfl) ?_
  refine JL.pure rfl rfl (OpP.shrN rfl rfl (by omega) (by first | decide | (simp only [IntKind.bits]; omega))) ?_
  refine JL.pure rfl rfl (OpP.conv rfl) ?_
  refine JL.pure rfl rfl (OpP.move rfl) ?_
  refine JL.pure rfl rfl (OpP.shrN rfl rfl (by omega) (by first | decide | (simp only [IntKind.bits]; omega))) ?_
  refine JL.pure rfl rfl (OpP.conv rfl) ?_
  refine JL.pure rfl rfl (OpP.move rfl) ?_
  refine JL.pure rfl rfl (OpP.conv rfl) ?_
  refine JL.mem rfl rfl (by apply OpM.buildSlice (by rfl) rfl (by rfl); (repeat (first | exact Fills.nil | (apply Fills.cons rfl rfl rfl; (case' hs => ((repeat (first | exact Spl.nil | apply Spl.here | apply Spl.there)); done)))))) ?_; rintro _ _ ⟨b21, rfl, rfl⟩
  refine JL.pure rfl rfl (OpP.move rfl) ?_
  refine JL.mem rfl rfl (by apply OpM.buildSlice (by rfl) rfl (by rfl); (repeat (first | exact Fills.nil | (apply Fills.cons rfl rfl rfl; (case' hs => ((repeat (first | exact Spl.nil | apply Spl.here | apply Spl.there)); done)))))) ?_; rintro _ _ ⟨b23, rfl, rfl⟩
  have e24 : Value.int .u8 ((rc.length / 2 ^ Int.toNat 24 : Nat) : Int) = u8c (UInt8.ofNat (rc.length / 16777216)) := by
    rw [← wrapB, wrap_u8]
    show Value.int .u8 ((rc.length / 16777216 : Nat) : Int) = _
    congr 1
    omega
  rw [show (32 - 0 : Nat) = p.length from hp.symm, show (if 32 = 0 then 0 else 0 + 0 * 1) = 0 from rfl, e24, wrapB, wrapB, wrapB]
  have h1 : (cat [(Value.bool true, p), (Value.bool true, be4 rc.length), (Value.bool true, rc)]).length ≤ 900000 := by
    have := hl2 trivial
    simp [cat, hp, be4]; omega
  refine JL.step rfl rfl (OpW.call (first := []) (captured := []) inferInstance rfl rfl (Of_ok (ps := [(_, p), (_, be4 rc.length), (_, rc)]) hK (by exact h1) (by first | assumption | omega | rfl | exact Nat.le_of_ble_eq_true rfl | (simp; omega)) (Parts.row3 .head (RdO.ofRow (.tail (.tail (.tail .head))) (by first | exact Nat.le_refl _ | decide | omega)) (RdO.ofRow (.tail .head) (by first | exact Nat.le_refl _ | decide | omega)) (hr.conv fun _ h => Own.pick (pre := [_, _, _, _]) [] rfl h) (Nat.le_refl _)))) ?_; rintro r24 _ ⟨rfl, rfl⟩
  refine JL.mem0 rfl (by apply OpM.storeN rfl rfl (by rw [bcells_length]; first | assumption | exact shaB_length _ _ | solve_by_elim) (bcells_one _); (case' hu => exact (.tail (.tail .head))); (case' hs => exact spl_all (by first | (rw [bcells_length, List.length_replicate]; first | assumption | exact shaB_length _ _ | solve_by_elim) | (rw [bcells_length, bcells_length]; refine Eq.trans (b := 32) ?_ (Eq.symm ?_) <;> (first | assumption | exact shaB_length _ _ | solve_by_elim)) | (rw [bcells_length]; first | assumption | exact shaB_length _ _ | solve_by_elim))); done) ?_; rintro _ _ ⟨rfl, rfl⟩
  refine JL.nil ?_
  refine J.retC rfl rfl (by apply Cells.full; (with_reducible repeat (first | exact .head | apply Has.tail))) (by first | (rw [List.length_append, hdC_len (by first | assumption | exact shaB_length _ _ | solve_by_elim)]; rfl) | exact hdC_len (by first | assumption | exact shaB_length _ _ | solve_by_elim) | (rw [bcells_length]; first | assumption | exact shaB_length _ _ | solve_by_elim) | exact fc_length _ _ | exact fB_length _ _ | rfl) ?_
  exact ⟨_, ⟨by rw [cat_link]; rfl, rfl⟩, fun _ h => h.tail.tail.tail.tail⟩
end Go.Proofs.F

-- seat f
namespace Go.Proofs.F
open Go Go.Gp Go.RowKit

instance : KeyT Tryd.prog 36 3 := ⟨by kernel_rfl, by decide, by kernel_rfl, by kernel_rfl⟩
instance : KeyT Tryd.prog 35 3 := ⟨by kernel_rfl, by decide, by kernel_rfl, by kernel_rfl⟩
instance : BytesA Tryd.prog 36 32 := ⟨5, Tryd.underlying36, Tryd.underlying5, by kernel_rfl, by kernel_rfl⟩
instance : BytesA Tryd.prog 35 32 := ⟨5, Tryd.underlying35, Tryd.underlying5, by kernel_rfl, by kernel_rfl⟩
instance : KeyT Tryd.prog 38 4 := ⟨by kernel_rfl, by decide, by kernel_rfl, by kernel_rfl⟩
theorem head_keys (h : List UInt8) (n : Int) (hl : h.length = 32) (hn : (Lit.int .i64 n).wf = true) : Tryd.prog.keyLits 4 38 (hdC h n) = some (blits h ++ [.int .i64 n]) := by
  have h26 : Tryd.prog.keyLits 3 36 (bcells h) = some (blits h) := BytesA.keys (P := Tryd.prog) (t := 36) inferInstance 1 hl
  have h3 : Tryd.prog.keyLits 3 3 [.int .i64 n] = some [.int .i64 n] := by
    unfold Program.keyLits
    rw [Tryd.underlying3]
    simp [hn]
  have c26 : Tryd.prog.cellsOf 36 = 32 := by kernel_rfl
  have c3 : Tryd.prog.cellsOf 3 = 1 := by kernel_rfl
  have c55 : Tryd.prog.cellsOf 38 = 33 := by kernel_rfl
  have e1 : (hdC h n).take 32 = bcells h := by rw [hdC, List.take_left' (by rw [bcells_length, hl])]
  have e2 : (hdC h n).drop 32 = [.int .i64 n] := by rw [hdC, List.drop_left' (by rw [bcells_length, hl])]
  unfold Program.keyLits
  rw [Tryd.underlying38]
  simp [hdC_len hl, c55, c26, c3, e1, e2, h26, h3]
instance : HeadT Tryd.prog 38 := ⟨head_keys⟩
/-- The fingerprint behind records. -/
def hsh (K : Ws) (h : List UInt8) (ls : List (List UInt8)) : List UInt8 := ls.foldl (fun h r => shaB K (linkT h r)) h
theorem hsh_len {K : Ws} {h : List UInt8} (hl : h.length = 32) : ∀ ls : List (List UInt8), (hsh K h ls).length = 32 := by
  intro ls
  induction ls generalizing h with
  | nil => exact hl
  | cons r ls ih => exact ih (shaB_length _ _)
theorem hsh_snoc (K : Ws) (h : List UInt8) (ls : List (List UInt8)) (r : List UInt8) : hsh K h (ls ++ [r]) = shaB K (linkT (hsh K h ls) r) := by
  rw [hsh, List.foldl_append]; rfl
theorem Next_ok2 {w0 : World} {F : List HProp} {h rc : List UInt8} {n : Int} {v : Value} {K : Ws} (hK : Tab w0 0 64 fun j => w32 (K j)) (hl : h.length = 32) (hrl : rc.length ≤ 80000) (h1 : -9223372036854775808 ≤ n) (h2 : n ≤ 9223372036854775806) (hr : RdO w0 F v rc.length (bcells rc)) :
    FnO Tryd.prog w0 40 [.agg (hdC h n).toArray, v] F (fun r l' => r = .agg (hdC (shaB K (linkT h rc)) (n + 1)).toArray ∧ l' = F) := by
  refine FnO.rdF (fun _ h => h) hr fun hr0 => ?_
  obtain ⟨va, vc, rfl⟩ := hr0.lit
  refine FnO.weak ?_
  refine FnO.intro (n := 13) Tryd.func40 rfl rfl rfl ?_
  refine J.seq ?_
  refine J.region ?_
  refine JL.mem rfl rfl (OpM.box rfl rfl) ?_; rintro _ _ ⟨b2, rfl, rfl⟩
  refine JL.mem rfl rfl OpM.alloc ?_; rintro _ _ ⟨b4, rfl, rfl⟩
  refine JL.nil ?_
  refine J.seq ?_
  refine J.regionD [1, 5] (by kernel_rfl) ?_
  refine DL.pure (i := 0) (by kernel_rfl) (by kernel_rfl) rfl rfl rfl (OpP.fieldAddr rfl) ?_
  refine DL.read (i := 1) (by kernel_rfl) (by kernel_rfl) rfl rfl rfl (fun _ h => h) (OpR.loadN rfl (Cells.hd0 (.tail .head) (by first | assumption | exact shaB_length _ _ | solve_by_elim)) (by rw [bcells_length]; exact (by first | assumption | exact shaB_length _ _ | solve_by_elim))) ?_
  refine DL.pure (i := 2) (by kernel_rfl) (by kernel_rfl) rfl rfl rfl (OpP.move rfl) ?_
  refine DL.pure (i := 4) (by kernel_rfl) (by kernel_rfl) rfl rfl rfl (OpP.fieldAddr rfl) ?_
  refine DL.read (i := 5) (by kernel_rfl) (by kernel_rfl) rfl rfl rfl (fun _ h => h) (OpR.load1 rfl (Cell.hd1 (.tail .head) (by first | assumption | exact shaB_length _ _ | solve_by_elim))) ?_
  refine DL.pure (i := 6) (by kernel_rfl) (by kernel_rfl) rfl rfl rfl (OpP.addI rfl rfl (by omega) (by omega)) ?_
  refine DL.only (i := 3) (by kernel_rfl) ?_
  refine DL1.stepK rfl rfl rfl (by exact OpW.call (first := []) (captured := []) inferInstance rfl rfl (Link_ok hK hl (by omega) (hr.conv fun _ h => Own.pick (pre := [_, _]) [] rfl h))) (by rintro _ _ ⟨rfl, rfl⟩ _ h; exact Own.pick (pre := [_, _]) [0, 1] rfl h) ?_; rintro r8 _ ⟨rfl, rfl⟩
  refine DL.pure (i := 7) (by kernel_rfl) (by kernel_rfl) rfl rfl rfl (OpP.buildHead (by rfl) rfl (by first | assumption | exact shaB_length _ _ | solve_by_elim)) ?_
  refine DL.only (i := 8) (by kernel_rfl) ?_
  refine DL1.stepF0 rfl rfl (by kernel_rfl) (OpM.w (by apply OpM.storeN rfl rfl (hdC_len (by first | assumption | exact shaB_length _ _ | solve_by_elim)) hdC_one; (case' hu => exact .head); (case' hs => exact spl_all (by first | (rw [hdC_len (by first | assumption | exact shaB_length _ _ | solve_by_elim), hdC_len (by first | assumption | exact shaB_length _ _ | solve_by_elim)]; done) | (rw [hdC_len (by first | assumption | exact shaB_length _ _ | solve_by_elim)]; rfl))); done)) ?_; rintro _ _ ⟨rfl, rfl⟩
  refine DL.done (by kernel_rfl) ?_
  refine J.retC rfl rfl (by apply Cells.full; (with_reducible repeat (first | exact .head | apply Has.tail))) (by first | (rw [List.length_append, hdC_len (by first | assumption | exact shaB_length _ _ | solve_by_elim)]; rfl) | exact hdC_len (by first | assumption | exact shaB_length _ _ | solve_by_elim) | (rw [bcells_length]; first | assumption | exact shaB_length _ _ | solve_by_elim) | exact fc_length _ _ | exact fB_length _ _ | rfl) ?_
  exact ⟨_, ⟨rfl, rfl⟩, fun _ h => h.tail.tail⟩
def h0 : List UInt8 := List.replicate 32 0
theorem h0_cells : hdC h0 0 = List.replicate 32 (Value.int .u8 0) ++ [Value.int .i64 0] := by rw [hdC, h0, bcells_rep]; rfl
end Go.Proofs.F

-- seat f
namespace Go.Proofs.F
open Go Go.Gp Go.RowKit

theorem NextH_ok {w0 : World} {F : List HProp} {h rc : List UInt8} {n : Nat} {v : Value} {K : Ws} (hK : Tab w0 0 64 fun j => w32 (K j)) (hl : h.length = 32) (hrl : rc.length ≤ 80000) (h2 : n ≤ 9223372036854775806) (hr : RdO w0 F v rc.length (bcells rc)) :
    FnO Tryd.prog w0 40 [.agg (hdC h (n : Nat)).toArray, v] F (fun r l' => r = .agg (hdC (shaB K (linkT h rc)) ((n + 1 : Nat) : Int)).toArray ∧ l' = F) := by
  have h := Next_ok2 hK hl hrl (n := (n : Int)) (by omega) (by omega) hr
  rw [show ((n + 1 : Nat) : Int) = (n : Int) + 1 by omega]
  exact h
end Go.Proofs.F

-- seat f
namespace Go.Proofs.F
open Go Go.Gp Go.RowKit

/-! Slices of bytes that are owned, in an owned slice. -/
def ownAll : List (Value × List UInt8) → HProp
  | [] => emp
  | q :: qs => star (own 5 1 q.1 q.2.length (bcells q.2)) (ownAll qs)
def ownP (r : Value) (qs : List (Value × List UInt8)) : HProp := star (own 26 1 r qs.length (qs.map (·.1))) (ownAll qs.reverse)
theorem ownAll_at {w0 w : World} {l : List HProp} {p : Value × List UInt8} : ∀ {rs : List (Value × List UInt8)}, p ∈ rs → Own w0 w (ownAll rs :: l) → Own w0 w [own 5 1 p.1 p.2.length (bcells p.2)]
  | [], h, _ => nomatch h
  | q :: rs, h, ho => by
    have ho := Own.star_out ho
    rcases List.mem_cons.1 h with rfl | h
    · exact ho.head
    · exact ownAll_at h ho.tail
theorem Parts.ofOwn {w0 : World} {F : List HProp} {r : Value} {qs : List (Value × List UInt8)} (hq : ∀ q ∈ qs, ∃ a c, q.1 = .slice a q.2.length c) : Parts w0 (ownP r qs :: F) r qs :=
  ⟨(RdO.own .head).conv fun _ h => (Own.star_out h).head, fun p hp => ⟨hq p hp, (RdO.own .head).conv fun _ h => ownAll_at (List.mem_reverse.2 hp) (Own.star_out h).tail⟩⟩
theorem Bclone_ok {w0 : World} {F : List HProp} {v : Value} {l : List UInt8} (hl : l.length ≤ 1000000) (hr : RdO w0 F v l.length (bcells l)) :
    FnO Tryd.prog w0 31 [v] F (fun r l' => (∃ a c, r = .slice a l.length c) ∧ l' = own 5 1 r l.length (bcells l) :: F) := by
  refine FnO.rdF (fun _ h => h) hr fun hr1 => ?_
  obtain ⟨a1, c1, rfl⟩ := hr1.lit
  have hbl : (bcells l).length = l.length * 1 := by rw [bcells_length]; omega
  refine FnO.weak ?_
  cases a1 with
  | none =>
    have h0 : l = [] := by
      rcases hr1 with ⟨a, c, h1, h2, _⟩ | ⟨b, o, c, h1, _⟩
      · exact List.eq_nil_of_length_eq_zero h2
      · cases h1
    subst h0
    refine FnO.intro (n := 8) Tryd.func31 rfl rfl rfl ?_
    refine J.seq ?_
    refine J.region ?_
    refine JL.pure rfl rfl (OpP.assign rfl) ?_
    refine JL.nil ?_
    refine J.seq ?_
    refine J.seq ?_
    refine J.region ?_
    refine JL.pure rfl rfl (OpP.move rfl) ?_
    refine JL.pure rfl rfl (OpP.eqSlNil rfl rfl) ?_
    refine JL.nil ?_
    refine J.condT rfl ?_
    refine J.seq ?_
    refine J.region ?_
    refine JL.pure rfl rfl (OpP.assign rfl) ?_
    refine JL.nil ?_
    refine J.ret1 rfl rfl ?_
    exact ⟨_, ⟨⟨none, 0, rfl⟩, rfl⟩, fun _ h => h.own_nil⟩
  | some a1 =>
    refine FnO.intro (n := 8) Tryd.func31 rfl rfl rfl ?_
    refine J.seq ?_
    refine J.region ?_
    refine JL.pure rfl rfl (OpP.assign rfl) ?_
    refine JL.nil ?_
    refine J.seq ?_
    refine J.seq ?_
    refine J.region ?_
    refine JL.pure rfl rfl (OpP.move rfl) ?_
    refine JL.pure rfl rfl (OpP.eqSlNil rfl rfl) ?_
    refine JL.nil ?_
    refine J.condF rfl ?_
    refine J.skip ?_
    refine J.seq ?_
    refine J.region ?_
    refine JL.mem rfl rfl (by apply OpM.buildSlice (by rfl) rfl (by rfl); (repeat (first | exact Fills.nil | (apply Fills.cons rfl rfl rfl; (case' hs => ((repeat (first | exact Spl.nil | apply Spl.here | apply Spl.there)); done)))))) ?_; rintro _ _ ⟨b5, rfl, rfl⟩
    refine JL.pure rfl rfl (OpP.move rfl) ?_
    refine JL.ownRow (n := 0) (sz := 1) (by decide) rfl ?_
    refine JL.mem rfl rfl (OpM.appendH0 rfl rfl (.inl ⟨_, Sl.und inferInstance⟩) (by rfl) rfl rfl (RdO.src (hr.conv fun _ h => Own.pick (pre := [_]) [] rfl h) (by first | assumption | exact fc_length _ _ | (simp; done) | (simp; omega))) (by first | exact bcells_one _ | exact scells_one _ | exact icells_one _ | assumption | exact fc_one fun _ => rfl) (by simp only [maxLen]; omega) (by omega)) ?_; rintro _ _ ⟨⟨a7, c7, rfl⟩, rfl⟩
    refine JL.pure rfl rfl (OpP.assign rfl) ?_
    refine JL.nil ?_
    refine J.ret1 rfl rfl ?_
    exact ⟨_, ⟨⟨_, _, rfl⟩, rfl⟩, fun _ h => h⟩
end Go.Proofs.F
