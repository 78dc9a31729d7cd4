/- A text of the proof of a statement about the given program: its part BChain. No person has read it. -/
import Derived.Test.YtecnolmpdgfnfaaDoorBLaw4
import Derived.Test.YtecnolmpdgfnfaaDoorJ26
-- seat b
namespace Go.Proofs.B
open Go Go.Gp Go.RowKit

instance : KeyT Tryd.prog 55 4 := ⟨by kernel_rfl, by decide, by kernel_rfl, by kernel_rfl⟩
theorem head_keys (h : List UInt8) (n : Int) (hl : h.length = 32) (hn : (Lit.int .i64 n).wf = true) : Tryd.prog.keyLits 4 55 (hdC h n) = some (blits h ++ [.int .i64 n]) := by
  have h26 : Tryd.prog.keyLits 3 26 (bcells h) = some (blits h) := BytesA.keys (P := Tryd.prog) (t := 26) inferInstance 1 hl
  have h3 : Tryd.prog.keyLits 3 3 [.int .i64 n] = some [.int .i64 n] := by
    unfold Program.keyLits
    rw [Tryd.underlying3]
    simp [hn]
  have c26 : Tryd.prog.cellsOf 26 = 32 := by kernel_rfl
  have c3 : Tryd.prog.cellsOf 3 = 1 := by kernel_rfl
  have c55 : Tryd.prog.cellsOf 55 = 33 := by kernel_rfl
  have e1 : (hdC h n).take 32 = bcells h := by rw [hdC, List.take_left' (by rw [bcells_length, hl])]
  have e2 : (hdC h n).drop 32 = [.int .i64 n] := by rw [hdC, List.drop_left' (by rw [bcells_length, hl])]
  unfold Program.keyLits
  rw [Tryd.underlying55]
  simp [hdC_len hl, c55, c26, c3, e1, e2, h26, h3]
instance : HeadT Tryd.prog 55 := ⟨head_keys⟩
/-- The fingerprint behind records. -/
def hsh (K : Ws) (h : List UInt8) (ls : List (List UInt8)) : List UInt8 := ls.foldl (fun h r => shaB K (linkT h r)) h
theorem hsh_len {K : Ws} {h : List UInt8} (hl : h.length = 32) : ∀ ls : List (List UInt8), (hsh K h ls).length = 32 := by
  intro ls
  induction ls generalizing h with
  | nil => exact hl
  | cons r ls ih => exact ih (shaB_length _ _)
theorem hsh_snoc (K : Ws) (h : List UInt8) (ls : List (List UInt8)) (r : List UInt8) : hsh K h (ls ++ [r]) = shaB K (linkT (hsh K h ls) r) := by
  rw [hsh, List.foldl_append]; rfl
theorem Next_ok2 {w0 : World} {F : List HProp} {h rc : List UInt8} {n : Int} {v : Value} {K : Ws} (hK : Tab w0 0 64 fun j => w32 (K j)) (hl : h.length = 32) (hrl : rc.length ≤ 80000) (h1 : -9223372036854775808 ≤ n) (h2 : n ≤ 9223372036854775806) (hr : RdO w0 F v rc.length (bcells rc)) :
    FnO Tryd.prog w0 28 [.agg (hdC h n).toArray, v] F (fun r l' => r = .agg (hdC (shaB K (linkT h rc)) (n + 1)).toArray ∧ l' = F) := by
  refine FnO.rdF (fun _ h => h) hr fun hr0 => ?_
  obtain ⟨va, vc, rfl⟩ := hr0.lit
  refine FnO.weak ?_
  refine FnO.intro (n := 13) Tryd.func28 rfl rfl rfl ?_
  refine J.seq ?_
  refine J.region ?_
  refine JL.mem rfl rfl (OpM.box rfl rfl) ?_; rintro _ _ ⟨b2, rfl, rfl⟩
  refine JL.mem rfl rfl OpM.alloc ?_; rintro _ _ ⟨b4, rfl, rfl⟩
  refine JL.nil ?_
  refine J.seq ?_
  refine J.regionD [1, 5] (by kernel_rfl) ?_
  refine DL.pure (i := 0) (by kernel_rfl) (by kernel_rfl) rfl rfl rfl (OpP.fieldAddr rfl) ?_
  refine DL.read (i := 1) (by kernel_rfl) (by kernel_rfl) rfl rfl rfl (fun _ h => h) (OpR.loadN rfl (Cells.hd0 (.tail .head) (by first | assumption | exact Go.Proofs.B.shaB_length _ _ | solve_by_elim)) (by rw [bcells_length]; exact (by first | assumption | exact Go.Proofs.B.shaB_length _ _ | solve_by_elim))) ?_
  refine DL.pure (i := 2) (by kernel_rfl) (by kernel_rfl) rfl rfl rfl (OpP.move rfl) ?_
  refine DL.pure (i := 4) (by kernel_rfl) (by kernel_rfl) rfl rfl rfl (OpP.fieldAddr rfl) ?_
  refine DL.read (i := 5) (by kernel_rfl) (by kernel_rfl) rfl rfl rfl (fun _ h => h) (OpR.load1 rfl (Cell.hd1 (.tail .head) (by first | assumption | exact Go.Proofs.B.shaB_length _ _ | solve_by_elim))) ?_
  refine DL.pure (i := 6) (by kernel_rfl) (by kernel_rfl) rfl rfl rfl (OpP.addI rfl rfl (by omega) (by omega)) ?_
  refine DL.only (i := 3) (by kernel_rfl) ?_
  refine DL1.stepK rfl rfl rfl (by exact OpW.call (first := []) (captured := []) inferInstance rfl rfl (Link_ok hK hl (by omega) (hr.conv fun _ h => Own.pick (pre := [_, _]) [] rfl h))) (by rintro _ _ ⟨rfl, rfl⟩ _ h; exact Own.pick (pre := [_, _]) [0, 1] rfl h) ?_; rintro r8 _ ⟨rfl, rfl⟩
  refine DL.pure (i := 7) (by kernel_rfl) (by kernel_rfl) rfl rfl rfl (OpP.buildHead (by rfl) rfl (by first | assumption | exact Go.Proofs.B.shaB_length _ _ | solve_by_elim)) ?_
  refine DL.only (i := 8) (by kernel_rfl) ?_
  refine DL1.stepF0 rfl rfl (by kernel_rfl) (OpM.w (by apply OpM.storeN rfl rfl (hdC_len (by first | assumption | exact Go.Proofs.B.shaB_length _ _ | solve_by_elim)) hdC_one; (case' hu => exact .head); (case' hs => exact spl_all (by first | (rw [hdC_len (by first | assumption | exact Go.Proofs.B.shaB_length _ _ | solve_by_elim), hdC_len (by first | assumption | exact Go.Proofs.B.shaB_length _ _ | solve_by_elim)]; done) | (rw [hdC_len (by first | assumption | exact Go.Proofs.B.shaB_length _ _ | solve_by_elim)]; rfl))); done)) ?_; rintro _ _ ⟨rfl, rfl⟩
  refine DL.done (by kernel_rfl) ?_
  refine J.retC rfl rfl (by apply Cells.full; (with_reducible repeat (first | exact .head | apply Has.tail))) (by first | exact hdC_len (by first | assumption | exact Go.Proofs.B.shaB_length _ _ | solve_by_elim) | (rw [bcells_length]; first | assumption | exact Go.Proofs.B.shaB_length _ _ | solve_by_elim) | exact fc_length _ _ | exact fB_length _ _ | rfl) ?_
  exact ⟨_, ⟨rfl, rfl⟩, fun _ h => h.tail.tail⟩
/-- The records of parts. -/
abbrev recs (ps : List (Value × List UInt8)) : List (List UInt8) := ps.map (·.2)
theorem recs_take {ps : List (Value × List UInt8)} {i : Nat} {v : Value} {l : List UInt8} (h : ps[i]? = some (v, l)) : recs (ps.take (i + 1)) = recs (ps.take i) ++ [l] := by
  rw [List.take_add_one, h, recs, List.map_append]; rfl
theorem From_ok {w0 : World} {F : List HProp} {h : List UInt8} {n : Int} {v : Value} {ps : List (Value × List UInt8)} {K : Ws} (hK : Tab w0 0 64 fun j => w32 (K j)) (hl : h.length = 32) (hrl : ∀ p ∈ ps, p.2.length ≤ 80000) (h1 : -9223372036854775808 ≤ n) (h2 : n + ps.length ≤ 9223372036854775807) (hpl : ps.length ≤ 9223372036854775807) (hp : Parts w0 F v ps) :
    FnO Tryd.prog w0 40 [.agg (hdC h n).toArray, v] F (fun r l' => r = .agg (hdC (hsh K h (recs ps)) (n + ps.length)).toArray ∧ l' = F) := by
  refine FnO.rdF (fun _ h => h) hp.rd fun hp0 => ?_
  obtain ⟨va, vc, rfl⟩ := hp0.lit
  refine FnO.weak ?_
  refine FnO.intro (n := 18) Tryd.func40 rfl rfl rfl ?_
  refine J.seq ?_
  refine J.region ?_
  refine JL.mem rfl rfl (OpM.box rfl rfl) ?_; rintro _ _ ⟨b2, rfl, rfl⟩
  refine JL.mem rfl rfl OpM.alloc ?_; rintro _ _ ⟨b4, rfl, rfl⟩
  refine JL.nil ?_
  refine J.seq ?_
  refine J.seq ?_
  refine J.region ?_
  refine JL.pure rfl rfl (OpP.move rfl) ?_
  refine JL.pure rfl rfl (OpP.len rfl rfl) ?_
  refine JL.pure rfl rfl (OpP.move rfl) ?_
  refine JL.nil ?_
  refine J.block ?_
  refine J.loopI (fun i : Nat => ps.length - i) (fun i => i ≤ ps.length) (fun i => [(9, .int .i64 (i : Nat)), (8, .int .i64 (ps.length : Nat)), (7, .slice va ps.length vc), (2, .pointer (some ⟨b2, 0, none⟩)), (4, .pointer (some ⟨b4, 0, none⟩))])
    (fun i => row b2 55 (hdC (hsh K h (recs (ps.take i))) (n + (i : Nat))) :: row b4 55 (List.replicate 32 (.int .u8 0) ++ [.int .i64 0]) :: F) 0 (Nat.zero_le _) (by repeat (first | exact SubEnv.nil | refine SubEnv.cons (by first | rfl | exact congrArg (fun z => some (Value.int .i64 z)) (by omega) | (simp; done)) ?_)) (fun _ h => by rw [List.take_zero, show n + ((0 : Nat) : Int) = n by omega]; exact Own.f1 h) (fun i hi back => ?_)
  dsimp only at hi back ⊢
  by_cases hlt : i < ps.length
  · obtain ⟨pa, pc, p, hpi, hpv, hpr⟩ := hp.at hlt
    have hct := recs_take hpi
    have hpl2 : p.length ≤ 80000 := hrl _ (List.mem_of_getElem? hpi)
    have hhl := hsh_len (K := K) hl (recs (ps.take i))
    have hsn := hsh_snoc K h (recs (ps.take i)) p
    rw [← hct] at hsn
    refine J.seq ?_
    refine J.region ?_
    refine JL.decT rfl rfl (OpP.lss rfl rfl) (by omega) ?_
    refine JL.nil ?_
    refine J.seq ?_
    refine J.condT rfl ?_
    refine J.skip ?_
    refine J.seq ?_
    refine J.block ?_
    refine J.seq ?_
    refine J.region ?_
    obtain ⟨gva, pva, qva, eva, kva, cva⟩ := hp0.pos (by omega); cases eva
    refine JL.pure rfl rfl (OpP.indexAddr rfl rfl (by omega) (by omega)) ?_
    refine JL.read rfl rfl (OpR.load1 rfl (by apply Cells.cell cva (fun _ h => Own.pick (pre := [_, _]) [] rfl h); (case' hv => assumption); (case' ho => omega); done)) ?_
    refine JL.pure rfl rfl (OpP.assign rfl) ?_
    refine JL.nil ?_
    refine J.region ?_
    refine JL.read rfl rfl (OpR.loadN rfl (Cells.full .head) (hdC_len (by first | assumption | exact Go.Proofs.B.shaB_length _ _ | solve_by_elim))) ?_
    refine JL.pure rfl rfl (OpP.move rfl) ?_
    refine JL.step rfl rfl (OpW.call (first := []) (captured := []) inferInstance rfl rfl (Next_ok2 hK (by assumption) hpl2 (by first | assumption | omega | rfl | exact Nat.le_of_ble_eq_true rfl | (simp; omega)) (by first | assumption | omega | rfl | exact Nat.le_of_ble_eq_true rfl | (simp; omega)) (hpr.conv fun _ h => Own.pick (pre := [_, _]) [] rfl h))) ?_; rintro r15 _ ⟨rfl, rfl⟩
    refine JL.mem0 rfl (by apply OpM.storeN rfl rfl (hdC_len (by first | assumption | exact Go.Proofs.B.shaB_length _ _ | solve_by_elim)) hdC_one; (case' hu => exact .head); (case' hs => exact spl_all (by first | (rw [hdC_len (by first | assumption | exact Go.Proofs.B.shaB_length _ _ | solve_by_elim), hdC_len (by first | assumption | exact Go.Proofs.B.shaB_length _ _ | solve_by_elim)]; done) | (rw [hdC_len (by first | assumption | exact Go.Proofs.B.shaB_length _ _ | solve_by_elim)]; rfl))); done) ?_; rintro _ _ ⟨rfl, rfl⟩
    refine JL.nil ?_
    refine J.inBlock ?_
    refine J.region ?_
    refine JL.pure rfl rfl (OpP.addI rfl rfl (by omega) (by omega)) ?_
    refine JL.pure rfl rfl (OpP.move rfl) ?_
    refine JL.nil ?_
    refine back (i + 1) (by omega) (by omega) (by repeat (first | exact SubEnv.nil | refine SubEnv.cons (by first | rfl | exact congrArg (fun z => some (Value.int .i64 z)) (by omega) | (simp; done)) ?_)) (fun _ h => ?_)
    rw [hsn, show n + ((i + 1 : Nat) : Int) = n + (i : Int) + 1 by omega]
    exact h
  · have : i = ps.length := by omega
    subst this
    rw [List.take_length]
    have hhl := hsh_len (K := K) hl (recs ps)
    refine J.seq ?_
    refine J.region ?_
    refine JL.decF rfl rfl (OpP.lss rfl rfl) (by omega) ?_
    refine JL.nil ?_
    refine J.seq ?_
    refine J.condF rfl ?_
    refine J.exit rfl ?_
    refine J.seq ?_
    refine J.region ?_
    refine JL.read rfl rfl (OpR.loadN rfl (Cells.full .head) (hdC_len (by first | assumption | exact Go.Proofs.B.shaB_length _ _ | solve_by_elim))) ?_
    refine JL.mem0 rfl (by apply OpM.storeN rfl rfl (hdC_len (by first | assumption | exact Go.Proofs.B.shaB_length _ _ | solve_by_elim)) hdC_one; (case' hu => exact (.tail .head)); (case' hs => exact spl_all (by first | (rw [hdC_len (by first | assumption | exact Go.Proofs.B.shaB_length _ _ | solve_by_elim), hdC_len (by first | assumption | exact Go.Proofs.B.shaB_length _ _ | solve_by_elim)]; done) | (rw [hdC_len (by first | assumption | exact Go.Proofs.B.shaB_length _ _ | solve_by_elim)]; rfl))); done) ?_; rintro _ _ ⟨rfl, rfl⟩
    refine JL.nil ?_
    refine J.retC rfl rfl (by apply Cells.full; (with_reducible repeat (first | exact .head | apply Has.tail))) (by first | exact hdC_len (by first | assumption | exact Go.Proofs.B.shaB_length _ _ | solve_by_elim) | (rw [bcells_length]; first | assumption | exact Go.Proofs.B.shaB_length _ _ | solve_by_elim) | exact fc_length _ _ | exact fB_length _ _ | rfl) ?_
    exact ⟨_, ⟨rfl, rfl⟩, fun _ h => h.tail.tail⟩
def h0 : List UInt8 := List.replicate 32 0
theorem h0_c : bcells h0 = List.replicate 32 (Value.int .u8 0) := by rw [h0, bcells_rep]; rfl
theorem h0_cells : hdC h0 0 = List.replicate 32 (Value.int .u8 0) ++ [Value.int .i64 0] := by rw [hdC, h0, bcells_rep]; rfl
theorem From0_ok {w0 : World} {F : List HProp} {v : Value} {ps : List (Value × List UInt8)} {K : Ws} (hK : Tab w0 0 64 fun j => w32 (K j)) (hrl : ∀ p ∈ ps, p.2.length ≤ 80000) (hpl : ps.length ≤ 9223372036854775807) (hp : Parts w0 F v ps) :
    FnO Tryd.prog w0 40 [.agg (List.replicate 32 (Value.int .u8 0) ++ [Value.int .i64 0]).toArray, v] F (fun r l' => r = .agg (hdC (hsh K h0 (recs ps)) (ps.length : Nat)).toArray ∧ l' = F) := by
  have h := From_ok (h := h0) (n := 0) hK (by simp [h0]) hrl (by omega) (by omega) hpl hp
  rw [h0_cells, Int.zero_add] at h
  exact h
theorem All_ok {w0 : World} {F : List HProp} {v : Value} {ps : List (Value × List UInt8)} {K : Ws} (hK : Tab w0 0 64 fun j => w32 (K j)) (hrl : ∀ p ∈ ps, p.2.length ≤ 80000) (hpl : ps.length ≤ 9223372036854775807) (hp : Parts w0 F v ps) :
    FnO Tryd.prog w0 27 [v] F (fun r l' => r = .agg (hdC (hsh K h0 (recs ps)) (ps.length : Nat)).toArray ∧ l' = F) := by
  have hhl := hsh_len (K := K) (show h0.length = 32 by simp [h0]) (recs ps)
  refine FnO.weak ?_
  refine FnO.intro (n := 6) Tryd.func27 rfl rfl rfl ?_
  refine J.seq ?_
  refine J.region ?_
  refine JL.mem rfl rfl OpM.alloc ?_; rintro _ _ ⟨b2, rfl, rfl⟩
  refine JL.nil ?_
  refine J.seq ?_
  refine J.region ?_
  refine JL.pure rfl rfl (OpP.build rfl (by (repeat (first | exact Fills.nil | (apply Fills.cons rfl rfl rfl; (case' hs => ((repeat (first | exact Spl.nil | apply Spl.here | apply Spl.there)); done))))))) ?_
  refine JL.pure rfl rfl (OpP.move rfl) ?_
  refine JL.step rfl rfl (OpW.call (first := []) (captured := []) inferInstance rfl rfl (From0_ok hK hrl hpl (hp.conv (fun _ h => Own.pick (pre := [_]) [] rfl h)))) ?_; rintro r5 _ ⟨rfl, rfl⟩
  refine JL.mem0 rfl (by apply OpM.storeN rfl rfl (hdC_len (by first | assumption | exact Go.Proofs.B.shaB_length _ _ | solve_by_elim)) hdC_one; (case' hu => exact .head); (case' hs => exact spl_all (by first | (rw [hdC_len (by first | assumption | exact Go.Proofs.B.shaB_length _ _ | solve_by_elim), hdC_len (by first | assumption | exact Go.Proofs.B.shaB_length _ _ | solve_by_elim)]; done) | (rw [hdC_len (by first | assumption | exact Go.Proofs.B.shaB_length _ _ | solve_by_elim)]; rfl))); done) ?_; rintro _ _ ⟨rfl, rfl⟩
  refine JL.nil ?_
  refine J.retC rfl rfl (by apply Cells.full; (with_reducible repeat (first | exact .head | apply Has.tail))) (by first | exact hdC_len (by first | assumption | exact Go.Proofs.B.shaB_length _ _ | solve_by_elim) | (rw [bcells_length]; first | assumption | exact Go.Proofs.B.shaB_length _ _ | solve_by_elim) | exact fc_length _ _ | exact fB_length _ _ | rfl) ?_
  exact ⟨_, ⟨rfl, rfl⟩, fun _ h => h.tail⟩
theorem Check_ok {w0 : World} {F : List HProp} {h : List UInt8} {n : Int} {v : Value} {ps : List (Value × List UInt8)} {K : Ws} (hK : Tab w0 0 64 fun j => w32 (K j)) (hl : h.length = 32) (hn : (Lit.int .i64 n).wf = true) (hrl : ∀ p ∈ ps, p.2.length ≤ 80000) (hpl : ps.length ≤ 9223372036854775807) (hp : Parts w0 F v ps) :
    FnO Tryd.prog w0 30 [.agg (hdC h n).toArray, v] F (fun r l' => r = .bool (decide (hsh K h0 (recs ps) = h ∧ ((ps.length : Nat) : Int) = n)) ∧ l' = F) := by
  have hhl := hsh_len (K := K) (show h0.length = 32 by simp [h0]) (recs ps)
  have hw : (Lit.int .i64 ((ps.length : Nat) : Int)).wf = true := by simp [Lit.wf, IntKind.min, IntKind.max, IntKind.signed, IntKind.bits]; omega
  refine FnO.weak ?_
  refine FnO.intro (n := 9) Tryd.func30 rfl rfl rfl ?_
  refine J.seq ?_
  refine J.region ?_
  refine JL.mem rfl rfl (OpM.box rfl rfl) ?_; rintro _ _ ⟨b2, rfl, rfl⟩
  refine JL.pure rfl rfl (OpP.assign rfl) ?_
  refine JL.nil ?_
  refine J.seq ?_
  refine J.regionD [2] (by kernel_rfl) ?_
  refine DL.pure (i := 0) (by kernel_rfl) (by kernel_rfl) rfl rfl rfl (OpP.move rfl) ?_
  refine DL.read (i := 2) (by kernel_rfl) (by kernel_rfl) rfl rfl rfl (fun _ h => h) (OpR.loadN rfl (Cells.full .head) (hdC_len (by first | assumption | exact Go.Proofs.B.shaB_length _ _ | solve_by_elim))) ?_
  refine DL.only (i := 1) (by kernel_rfl) ?_
  refine DL1.stepK rfl rfl rfl (by exact OpW.call (first := []) (captured := []) inferInstance rfl rfl (All_ok hK hrl hpl (hp.conv (fun _ h => Own.pick (pre := [_]) [] rfl h)))) (by rintro _ _ ⟨rfl, rfl⟩ _ h; exact Own.pick (pre := [_]) [0] rfl h) ?_; rintro r6 _ ⟨rfl, rfl⟩
  refine DL.pure (i := 3) (by kernel_rfl) (by kernel_rfl) rfl rfl rfl (OpP.eqHead rfl rfl (by first | assumption | exact Go.Proofs.B.shaB_length _ _ | solve_by_elim) (by first | assumption | exact Go.Proofs.B.shaB_length _ _ | solve_by_elim) (by first | assumption | (simp [Lit.wf, IntKind.min, IntKind.max, IntKind.signed, IntKind.bits] <;> omega)) (by first | assumption | (simp [Lit.wf, IntKind.min, IntKind.max, IntKind.signed, IntKind.bits] <;> omega))) ?_
  refine DL.pure (i := 4) (by kernel_rfl) (by kernel_rfl) rfl rfl rfl (OpP.assign rfl) ?_
  refine DL.done (by kernel_rfl) ?_
  refine J.ret1 rfl rfl ?_
  exact ⟨_, ⟨rfl, rfl⟩, fun _ h => h.tail⟩
theorem Hash_ok {w0 : World} {F : List HProp} {v : Value} {ps : List (Value × List UInt8)} {K : Ws} (hK : ∀ i, i < 64 → hexOk constS i (K i) = true) (hrl : ∀ p ∈ ps, p.2.length ≤ 80000) (hpl : ps.length ≤ 9223372036854775807) (hp : Parts w0 F v ps) :
    FnO Tryd.prog w0 29 [v] F (fun r l' => r = .agg (bcells (hsh K h0 (recs ps))).toArray ∧ l' = F) := by
  refine FnO.rdF (fun _ h => h) hp.rd fun hp0 => ?_
  obtain ⟨va, vc, rfl⟩ := hp0.lit
  refine FnO.weak ?_
  refine FnO.intro (n := 18) Tryd.func29 rfl rfl rfl ?_
  refine J.seq ?_
  refine J.region ?_
  refine JL.mem rfl rfl OpM.alloc ?_; rintro _ _ ⟨b2, rfl, rfl⟩
  refine JL.nil ?_
  refine J.seq ?_
  refine J.region ?_
  refine JL.mem rfl rfl OpM.alloc ?_; rintro _ _ ⟨b3, rfl, rfl⟩
  refine JL.nil ?_
  refine J.seq ?_
  refine J.seq ?_
  refine J.region ?_
  refine JL.pure rfl rfl (OpP.assign rfl) ?_
  refine JL.nil ?_
  refine J.block ?_
  refine J.loopI (fun i : Nat => ps.length - i) (fun i => i ≤ ps.length) (fun i => [(4, .int .i64 (i : Nat)), (0, .slice va ps.length vc), (2, .pointer (some ⟨b2, 0, none⟩)), (3, .pointer (some ⟨b3, 0, none⟩))])
    (fun i => row b3 25 (bcells (hsh K h0 (recs (ps.take i)))) :: row b2 25 (List.replicate 32 (.int .u8 0)) :: F) 0 (Nat.zero_le _) (by repeat (first | exact SubEnv.nil | refine SubEnv.cons (by first | rfl | exact congrArg (fun z => some (Value.int .i64 z)) (by omega) | (simp; done)) ?_)) (fun _ h => by show Own _ _ (row b3 25 (bcells h0) :: _); rw [h0_c]; exact h) (fun i hi back => ?_)
  dsimp only at hi back ⊢
  by_cases hlt : i < ps.length
  · obtain ⟨pa, pc, p, hpi, hpv, hpr⟩ := hp.at hlt
    have hct := recs_take hpi
    have hpl2 : p.length ≤ 80000 := hrl _ (List.mem_of_getElem? hpi)
    have hhl := hsh_len (K := K) (show h0.length = 32 by simp [h0]) (recs (ps.take i))
    have hsn := hsh_snoc K h0 (recs (ps.take i)) p
    rw [← hct] at hsn
    refine J.seq ?_
    refine J.seq ?_
    refine J.region ?_
    refine JL.pure rfl rfl (OpP.move rfl) ?_
    refine JL.pure rfl rfl (OpP.move rfl) ?_
    refine JL.pure rfl rfl (OpP.len rfl rfl) ?_
    refine JL.decT rfl rfl (OpP.lss rfl rfl) (by omega) ?_
    refine JL.nil ?_
    refine J.condT rfl ?_
    refine J.skip ?_
    refine J.seq ?_
    refine J.block ?_
    refine J.regionD [0, 4] (by kernel_rfl) ?_
    refine DL.read (i := 0) (by kernel_rfl) (by kernel_rfl) rfl rfl rfl (fun _ h => h) (OpR.loadN rfl (Cells.full .head) (by rw [bcells_length]; first | assumption | exact Go.Proofs.B.shaB_length _ _ | solve_by_elim)) ?_
    refine DL.pure (i := 1) (by kernel_rfl) (by kernel_rfl) rfl rfl rfl (OpP.move rfl) ?_
    refine DL.pure (i := 2) (by kernel_rfl) (by kernel_rfl) rfl rfl rfl (OpP.move rfl) ?_
    obtain ⟨gva, pva, qva, eva, kva, cva⟩ := hp0.pos (by omega); cases eva
    refine DL.pure (i := 3) (by kernel_rfl) (by kernel_rfl) rfl rfl rfl (OpP.indexAddr rfl rfl (by omega) (by omega)) ?_
    refine DL.read (i := 4) (by kernel_rfl) (by kernel_rfl) rfl rfl rfl (fun _ h => h) (OpR.load1 rfl (by apply Cells.cell cva (fun _ h => Own.pick (pre := [_, _]) [] rfl h); (case' hv => assumption); (case' ho => omega); done)) ?_
    refine DL.only (i := 5) (by kernel_rfl) ?_
    refine DL1.stepF rfl rfl rfl (by kernel_rfl) (by exact OpW.call (first := []) (captured := []) inferInstance rfl rfl (RefLink_ok hK (by assumption) hpl2 (hpr.conv fun _ h => Own.pick (pre := [_, _]) [] rfl h))) ?_; rintro r16 _ ⟨rfl, rfl⟩
    refine DL.only (i := 6) (by kernel_rfl) ?_
    refine DL1.stepF0 rfl rfl (by kernel_rfl) (OpM.w (by apply OpM.storeN rfl rfl (by rw [bcells_length]; first | assumption | exact Go.Proofs.B.shaB_length _ _ | solve_by_elim) (bcells_one _); (case' hu => exact .head); (case' hs => exact spl_all (by first | (rw [bcells_length, List.length_replicate]; first | assumption | exact Go.Proofs.B.shaB_length _ _ | solve_by_elim) | (rw [bcells_length, bcells_length]; refine Eq.trans (b := 32) ?_ (Eq.symm ?_) <;> (first | assumption | exact Go.Proofs.B.shaB_length _ _ | solve_by_elim)) | (rw [bcells_length]; first | assumption | exact Go.Proofs.B.shaB_length _ _ | solve_by_elim))); done)) ?_; rintro _ _ ⟨rfl, rfl⟩
    refine DL.done (by kernel_rfl) ?_
    refine J.inBlock ?_
    refine J.region ?_
    refine JL.pure rfl rfl (OpP.move rfl) ?_
    refine JL.pure rfl rfl (OpP.addI rfl rfl (by omega) (by omega)) ?_
    refine JL.pure rfl rfl (OpP.assign rfl) ?_
    refine JL.nil ?_
    refine back (i + 1) (by omega) (by omega) (by repeat (first | exact SubEnv.nil | refine SubEnv.cons (by first | rfl | exact congrArg (fun z => some (Value.int .i64 z)) (by omega) | (simp; done)) ?_)) (fun _ h => ?_)
    rw [hsn]
    exact h
  · have : i = ps.length := by omega
    subst this
    rw [List.take_length]
    have hhl := hsh_len (K := K) (show h0.length = 32 by simp [h0]) (recs ps)
    refine J.seq ?_
    refine J.seq ?_
    refine J.region ?_
    refine JL.pure rfl rfl (OpP.move rfl) ?_
    refine JL.pure rfl rfl (OpP.move rfl) ?_
    refine JL.pure rfl rfl (OpP.len rfl rfl) ?_
    refine JL.decF rfl rfl (OpP.lss rfl rfl) (by omega) ?_
    refine JL.nil ?_
    refine J.condF rfl ?_
    refine J.exit rfl ?_
    refine J.seq ?_
    refine J.region ?_
    refine JL.read rfl rfl (OpR.loadN rfl (Cells.full .head) (by rw [bcells_length]; first | assumption | exact Go.Proofs.B.shaB_length _ _ | solve_by_elim)) ?_
    refine JL.mem0 rfl (by apply OpM.storeN rfl rfl (by rw [bcells_length]; first | assumption | exact Go.Proofs.B.shaB_length _ _ | solve_by_elim) (bcells_one _); (case' hu => exact (.tail .head)); (case' hs => exact spl_all (by first | (rw [bcells_length, List.length_replicate]; first | assumption | exact Go.Proofs.B.shaB_length _ _ | solve_by_elim) | (rw [bcells_length, bcells_length]; refine Eq.trans (b := 32) ?_ (Eq.symm ?_) <;> (first | assumption | exact Go.Proofs.B.shaB_length _ _ | solve_by_elim)) | (rw [bcells_length]; first | assumption | exact Go.Proofs.B.shaB_length _ _ | solve_by_elim))); done) ?_; rintro _ _ ⟨rfl, rfl⟩
    refine JL.nil ?_
    refine J.retC rfl rfl (by apply Cells.full; (with_reducible repeat (first | exact .head | apply Has.tail))) (by first | exact hdC_len (by first | assumption | exact Go.Proofs.B.shaB_length _ _ | solve_by_elim) | (rw [bcells_length]; first | assumption | exact Go.Proofs.B.shaB_length _ _ | solve_by_elim) | exact fc_length _ _ | exact fB_length _ _ | rfl) ?_
    exact ⟨_, ⟨rfl, rfl⟩, fun _ h => h.tail.tail⟩
end Go.Proofs.B
