/- A text of the proof of a statement about the given program: its part BRef6. No person has read it. -/
import Derived.Test.YtecnolmpdgfnfaaDoorBRef5
import Derived.Test.YtecnolmpdgfnfaaDoorBPad
import Derived.Test.YtecnolmpdgfnfaaDoorJ24
-- seat b
namespace Go.Proofs.B
open Go Go.Gp Go.RowKit

theorem BlockR_ok {w0 : World} {F : List HProp} {L : List UInt8} {U K : Ws} {b q n c i : Nat} (hK : ∀ i, i < 64 → hexOk constS i (K i) = true) (hi : 64 * i + 64 ≤ L.length) (hq : q = 64 * i) (hn : n = 64) (hc : 64 ≤ c) :
    FnO Tryd.prog w0 36 [.agg (fB 8 U).toArray, .slice (some ⟨b, q, none⟩) n c] (row b 5 (bcells L) :: F) (fun r l' => r = .agg (fB 8 (mixW K U ((L.drop (64 * i)).take 64))).toArray ∧ l' = row b 5 (bcells L) :: F) := by
  subst hq hn
  refine Block_ok hK (by rw [List.length_take, List.length_drop]; omega) (fun w hw => .inr ⟨b, 64 * i, c, rfl, hc, ?_⟩)
  rw [← bcells_take, ← bcells_drop]
  exact Cells.sub 64 .head rfl
theorem pow128 (m : Nat) : ((128 : Int) / 2 ^ m).toNat = 128 / 2 ^ m := by
  have h : (2 : Int) ^ m = ((2 ^ m : Nat) : Int) := by rw [Int.natCast_pow]; rfl
  rw [h]
  exact Int.toNat_natCast _
theorem RefSum_ok {w0 : World} {F : List HProp} {text : List UInt8} {v : Value} {K : Ws} (hK : ∀ i, i < 64 → hexOk constS i (K i) = true) (hl : text.length ≤ 100000) (hr : RdO w0 F v text.length (bcells text)) :
    FnO Tryd.prog w0 16 [v] F (fun r l' => r = .agg (bcells (shaB K text)).toArray ∧ l' = F) := by
  refine FnO.rd hr fun hr => ?_
  obtain ⟨va, vc, rfl⟩ := hr.lit
  refine FnO.weak ?_
  refine FnO.intro (n := 90) Tryd.func16 rfl rfl rfl ?_
  refine J.seq ?_
  refine J.region ?_
  refine JL.mem rfl rfl OpM.alloc ?_; rintro _ _ ⟨b2, rfl, rfl⟩
  refine JL.nil ?_
  refine J.seq ?_
  refine J.region ?_
  refine JL.pure rfl rfl (OpP.move rfl) ?_
  refine JL.pure rfl rfl (OpP.len rfl rfl) ?_
  refine JL.pure rfl rfl (OpP.addI rfl rfl (by omega) (by omega)) ?_
  refine JL.pure rfl rfl (OpP.addI rfl rfl (by omega) (by omega)) ?_
  refine JL.pure rfl rfl (OpP.quoI rfl rfl (by omega) (by omega) (by first | decide | (simp only [IntKind.max]; omega) | (simp [IntKind.max, IntKind.signed, IntKind.bits]; omega))) ?_
  refine JL.pure rfl rfl (OpP.assign rfl) ?_
  refine JL.nil ?_
  refine J.seq ?_
  refine J.region ?_
  refine JL.pure rfl rfl (OpP.move rfl) ?_
  refine JL.pure rfl rfl (OpP.mulI rfl rfl (by omega) (by omega)) ?_
  refine JL.mem rfl rfl (by apply OpM.make (by rfl) rfl rfl <;> omega) ?_; rintro _ _ ⟨b19, rfl, rfl⟩
  refine JL.pure rfl rfl (OpP.assign rfl) ?_
  refine JL.nil ?_
  refine J.seq ?_
  refine J.region ?_
  refine JL.pure rfl rfl (OpP.move rfl) ?_
  refine JL.pure rfl rfl (OpP.move rfl) ?_
  have eB : ((text.length : Int) + 9 + 63) / 64 = (((text.length + 72) / 64 : Nat) : Int) := by omega
  have e64 : ((64 : Int) * (((text.length + 72) / 64 : Nat) : Int)).toNat = 64 * ((text.length + 72) / 64) := by omega
  rw [eB, e64]
  have hpl := fun t (ht : t ≤ 8) => padT_length text ht
  have hp0 := padT_zero text
  have hps := fun t (ht : t < 8) => padT_succ text ht
  have hpb := pad_blocks text
  have hB1 : 64 * ((text.length + 72) / 64) ≤ text.length + 72 := by omega
  have hB2 : text.length + 9 ≤ 64 * ((text.length + 72) / 64) := by omega
  generalize (text.length + 72) / 64 = B at hpl hp0 hps hpb hB1 hB2 ⊢
  have hb0 : rep (64 * B) [Value.int .u8 0] = bcells (List.replicate (64 * B) 0) := by rw [rep_one, bcells_rep]; rfl
  rw [hb0]
  have hspl : Spl (bcells (List.replicate (64 * B) 0)) 0 (bcells text) (bcells (text ++ List.replicate (64 * B - text.length) 0)) := by
    have h := Spl.mk (cs := bcells (List.replicate (64 * B) 0)) (vs := bcells text) (o := 0) (by rw [bcells_length, bcells_length, List.length_replicate]; omega)
    rw [List.take_zero, List.nil_append, bcells_drop, ← bcells_app, Nat.zero_add, bcells_length, List.drop_replicate] at h
    exact h
  refine JL.mem rfl rfl (by apply OpM.copyAll rfl rfl rfl ((hr.conv fun _ h => h.tail.tail).src (sz := 1) (by rw [bcells_length]; omega)) (by omega) ⟨_, _, rfl⟩ (bcells_one _) hspl; exact .head) ?_; rintro _ _ ⟨rfl, rfl⟩
  have hlen : text.length < (bcells (text ++ List.replicate (64 * B - text.length) 0)).length := by rw [bcells_length, List.length_append, List.length_replicate]; omega
  refine JL.nil ?_
  refine J.seq ?_
  refine J.region ?_
  refine JL.pure rfl rfl (OpP.move rfl) ?_
  refine JL.pure rfl rfl (OpP.move rfl) ?_
  refine JL.pure rfl rfl (OpP.len rfl rfl) ?_
  refine JL.pure rfl rfl (OpP.indexAddr rfl rfl (by omega) (by omega)) ?_
  refine JL.mem0 rfl (by apply OpM.store1 rfl rfl rfl; (case' hu => exact .head); (case' hs => exact spl_at rfl (by first | assumption | omega)); done) ?_; rintro _ _ ⟨rfl, rfl⟩
  refine JL.nil ?_
  refine J.seq ?_
  refine J.region ?_
  refine JL.pure rfl rfl (OpP.move rfl) ?_
  refine JL.pure rfl rfl (OpP.len rfl rfl) ?_
  refine JL.pure rfl rfl (OpP.mulI rfl rfl (by omega) (by omega)) ?_
  refine JL.pure rfl rfl (OpP.assign rfl) ?_
  refine JL.nil ?_
  refine J.seq ?_
  refine J.seq ?_
  refine J.region ?_
  refine JL.pure rfl rfl (OpP.move rfl) ?_
  refine JL.pure rfl rfl (OpP.len rfl rfl) ?_
  refine JL.pure rfl rfl (OpP.subI rfl rfl (by omega) (by omega)) ?_
  refine JL.pure rfl rfl (OpP.assign rfl) ?_
  refine JL.nil ?_
  refine J.block ?_
  have e0 : (bcells (text ++ List.replicate (64 * B - text.length) 0)).set (0 + (text.length : Int).toNat * 1) (Value.int .u8 128) = bcells (padT text 0) := by
    rw [show 0 + (text.length : Int).toNat * 1 = text.length by omega, show Value.int .u8 128 = u8c 128 from rfl, bcells_set, hp0]
  rw [e0]
  refine J.loopI (fun t : Nat => 9 - t) (fun t => t ≤ 8) (fun t => [(6, .int .i64 ((64 * B : Nat) - 1 - (t : Nat))), (5, .int .i64 (8 * text.length / 256 ^ t : Nat)), (4, .slice (some ⟨b19, 0, none⟩) (64 * B) (64 * B)), (3, .int .i64 (B : Nat)), (2, .pointer (some ⟨b2, 0, none⟩))])
    (fun t => row b19 5 (bcells (padT text t)) :: row b2 25 (List.replicate 32 (.int .u8 0)) :: F) 0 (Nat.zero_le _) (by rw [Nat.pow_zero, Nat.div_one]; exact (by repeat (first | exact SubEnv.nil | refine SubEnv.cons (by first | rfl | exact congrArg (fun z => some (Value.int .i64 z)) (by omega) | (simp; done)) ?_))) (fun _ h => h) (fun t ht back => ?_)
  dsimp only at ht back ⊢
  have hmx : 8 * text.length / 256 ^ t ≤ 800000 := Nat.le_trans (Nat.div_le_self _ _) (by omega)
  by_cases hpos : 0 < 8 * text.length / 256 ^ t
  · have ht8 : t < 8 := by
      rcases Nat.lt_or_ge t 8 with h | h
      · exact h
      · have : t = 8 := by omega
        subst this
        have : 8 * text.length / 256 ^ 8 = 0 := Nat.div_eq_of_lt (by have : 256 ^ 8 = 18446744073709551616 := rfl; omega)
        omega
    have hs1 := hps t ht8
    have hl1 := hpl t ht
    have hdn : 8 * text.length / 256 ^ (t + 1) = 8 * text.length / 256 ^ t / 256 := by rw [Nat.pow_succ, Nat.div_div_eq_div_mul]
    generalize 8 * text.length / 256 ^ t = m at hmx hpos hs1 hdn ⊢
    have hbl : (bcells (padT text t)).length = 64 * B := by rw [bcells_length, hl1]
    refine J.seq ?_
    refine J.seq ?_
    refine J.region ?_
    refine JL.pure rfl rfl (OpP.move rfl) ?_
    refine JL.decT rfl rfl (OpP.gtr rfl rfl) (by omega) ?_
    refine JL.nil ?_
    refine J.condT rfl ?_
    refine J.skip ?_
    refine J.seq ?_
    refine J.block ?_
    refine J.seq ?_
    refine J.region ?_
    refine JL.pure rfl rfl (OpP.move rfl) ?_
    refine JL.pure rfl rfl (OpP.move rfl) ?_
    refine JL.pure rfl rfl (OpP.move rfl) ?_
    refine JL.pure rfl rfl (OpP.remI rfl rfl (by first | omega | exact Int.natCast_nonneg _) (by omega)) ?_
    refine JL.pure rfl rfl (OpP.convI rfl (by simp [IntKind.min, IntKind.max, IntKind.signed, IntKind.bits] <;> omega) (by simp [IntKind.min, IntKind.max, IntKind.signed, IntKind.bits] <;> omega)) ?_
    refine JL.pure rfl rfl (OpP.indexAddr rfl rfl (by omega) (by omega)) ?_
    refine JL.mem0 rfl (by apply OpM.store1 rfl rfl rfl; (case' hu => exact .head); (case' hs => exact spl_at rfl (by first | assumption | omega)); done) ?_; rintro _ _ ⟨rfl, rfl⟩
    refine JL.nil ?_
    refine J.region ?_
    refine JL.pure rfl rfl (OpP.move rfl) ?_
    refine JL.pure rfl rfl (OpP.quoI rfl rfl (by omega) (by omega) (by first | decide | (simp only [IntKind.max]; omega) | (simp [IntKind.max, IntKind.signed, IntKind.bits]; omega))) ?_
    refine JL.pure rfl rfl (OpP.assign rfl) ?_
    refine JL.nil ?_
    refine J.inBlock ?_
    refine J.region ?_
    refine JL.pure rfl rfl (OpP.move rfl) ?_
    refine JL.pure rfl rfl (OpP.subI rfl rfl (by omega) (by omega)) ?_
    refine JL.pure rfl rfl (OpP.assign rfl) ?_
    refine JL.nil ?_
    refine back (t + 1) (by omega) (by omega) (by rw [hdn]; exact (by repeat (first | exact SubEnv.nil | refine SubEnv.cons (by first | rfl | exact congrArg (fun z => some (Value.int .i64 z)) (by omega) | (simp; done)) ?_))) (fun _ h => ?_)
    rw [← hs1, ← bcells_set]
    rw [show 0 + (((64 * B : Nat) : Int) - 1 - (t : Int)).toNat * 1 = 64 * B - 1 - t by omega, show Value.int .u8 ((m : Int) % 256) = u8c (UInt8.ofNat m) from by rw [u8c, UInt8.toNat_ofNat']; rfl] at h
    exact h
  · have hz : 8 * text.length / 256 ^ t = 0 := Nat.eq_zero_of_not_pos hpos
    have he := padT_end text ht hz
    rw [he, hz]
    have hsha : shaB K text = bytesV (eatV K begins (text ++ padP text.length) B) := by
      rw [shaB, stV, hpb, Nat.mul_div_cancel_left _ (by decide)]
    rw [hsha]
    generalize text ++ padP text.length = L at hpb ⊢
    clear he hps hp0 hpl back e0 hspl hlen hb0 hmx
    refine J.seq ?_
    refine J.seq ?_
    refine J.region ?_
    refine JL.pure rfl rfl (OpP.move rfl) ?_
    refine JL.decF rfl rfl (OpP.gtr rfl rfl) (by omega) ?_
    refine JL.nil ?_
    refine J.condF rfl ?_
    refine J.exit rfl ?_
    refine J.seq ?_
    refine J.region ?_
    refine JL.mem rfl rfl OpM.alloc ?_; rintro _ _ ⟨b7, rfl, rfl⟩
    refine JL.nil ?_
    refine J.seq ?_
    refine J.seq ?_
    refine J.region ?_
    refine JL.pure rfl rfl (OpP.assign rfl) ?_
    refine JL.nil ?_
    refine J.block ?_
    refine J.loopI (fun i : Nat => 8 - i) (fun i => i ≤ 8) (fun i => [(8, .int .i64 (i : Nat)), (7, .pointer (some ⟨b7, 0, none⟩)), (4, .slice (some ⟨b19, 0, none⟩) (64 * B) (64 * B)), (3, .int .i64 (B : Nat)), (2, .pointer (some ⟨b2, 0, none⟩))])
      (fun i => row b7 74 (fB 8 fun j => if j < i then begins j else 0) :: row b19 5 (bcells L) :: row b2 25 (List.replicate 32 (.int .u8 0)) :: F) 0 (Nat.zero_le _) (by repeat (first | exact SubEnv.nil | refine SubEnv.cons (by first | rfl | exact congrArg (fun z => some (Value.int .i64 z)) (by omega) | (simp; done)) ?_)) (fun _ h => by
        rw [(fB_rep 8 : List.replicate 256 (Value.bool false) = _)] at h
        exact h) (fun i hi back => ?_)
    dsimp only at hi back ⊢
    by_cases hlt : i < 8
    · have hx := List.all_eq_true.1 hexB i (List.mem_range.2 hlt)
      refine J.seq ?_
      refine J.seq ?_
      refine J.region ?_
      refine JL.pure rfl rfl (OpP.move rfl) ?_
      refine JL.decT rfl rfl (OpP.lss rfl rfl) (by omega) ?_
      refine JL.nil ?_
      refine J.condT rfl ?_
      refine J.skip ?_
      refine J.seq ?_
      refine J.block ?_
      refine J.region ?_
      refine JL.pure rfl rfl (OpP.move rfl) ?_
      refine JL.pure rfl rfl (OpP.move rfl) ?_
      refine JL.step rfl rfl (OpW.call (first := []) (captured := []) inferInstance rfl rfl (Hex_ok (n := i) (by omega) (hexOk_spec hx))) ?_; rintro r51 _ ⟨rfl, rfl⟩
      refine JL.pure rfl rfl (OpP.indexAddrA rfl rfl (by omega) (by omega)) ?_
      refine JL.mem0 rfl (by apply OpM.storeN rfl rfl (fc_length _ _) (fc_one fun _ => rfl); (case' hu => exact .head); (case' hs => exact spl_fB (by omega)); done) ?_; rintro _ _ ⟨rfl, rfl⟩
      refine JL.nil ?_
      refine J.inBlock ?_
      refine J.region ?_
      refine JL.pure rfl rfl (OpP.move rfl) ?_
      refine JL.pure rfl rfl (OpP.addI rfl rfl (by omega) (by omega)) ?_
      refine JL.pure rfl rfl (OpP.assign rfl) ?_
      refine JL.nil ?_
      refine back (i + 1) (by omega) (by omega) (by repeat (first | exact SubEnv.nil | refine SubEnv.cons (by first | rfl | exact congrArg (fun z => some (Value.int .i64 z)) (by omega) | (simp; done)) ?_)) (fun _ h => ?_)
      rw [show (fB 8 fun j => if j < i + 1 then begins j else 0) = fB 8 (upd (fun j => if j < i then begins j else 0) i (begins i)) from fB_congr fun j _ => by
        unfold upd
        by_cases hj : j = i
        · subst hj; rw [if_pos rfl, if_pos (by omega)]
        · rw [if_neg hj]
          dsimp only
          by_cases h2 : j < i
          · rw [if_pos h2, if_pos (by omega)]
          · rw [if_neg h2, if_neg (by omega)]]
      exact h
    · have : i = 8 := by omega
      subst this
      rw [show (fB 8 fun j => if j < 8 then begins j else 0) = fB 8 (eatV K begins L 0) from fB_congr fun j hj => if_pos hj]
      clear back
      refine J.seq ?_
      refine J.seq ?_
      refine J.region ?_
      refine JL.pure rfl rfl (OpP.move rfl) ?_
      refine JL.decF rfl rfl (OpP.lss rfl rfl) (by omega) ?_
      refine JL.nil ?_
      refine J.condF rfl ?_
      refine J.exit rfl ?_
      refine J.seq ?_
      refine J.seq ?_
      refine J.region ?_
      refine JL.pure rfl rfl (OpP.assign rfl) ?_
      refine JL.nil ?_
      refine J.block ?_
      refine J.loopI (fun i : Nat => B - i) (fun i => i ≤ B) (fun i => [(9, .int .i64 (i : Nat)), (7, .pointer (some ⟨b7, 0, none⟩)), (4, .slice (some ⟨b19, 0, none⟩) (64 * B) (64 * B)), (3, .int .i64 (B : Nat)), (2, .pointer (some ⟨b2, 0, none⟩))])
        (fun i => row b7 74 (fB 8 (eatV K begins L i)) :: row b19 5 (bcells L) :: row b2 25 (List.replicate 32 (.int .u8 0)) :: F) 0 (Nat.zero_le _) (by repeat (first | exact SubEnv.nil | refine SubEnv.cons (by first | rfl | exact congrArg (fun z => some (Value.int .i64 z)) (by omega) | (simp; done)) ?_)) (fun _ h => h) (fun i hi back => ?_)
      dsimp only at hi back ⊢
      by_cases hlt : i < B
      · have hil : 64 * i + 64 ≤ L.length := by omega
        have hqi : (if 64 * B = (64 * (i : Int)).toNat then 0 else 0 + (64 * (i : Int)).toNat * 1) = 64 * i := by
          rw [if_neg (by omega)]; omega
        have he1 : eatV K begins L (i + 1) = mixW K (eatV K begins L i) ((L.drop (64 * i)).take 64) := rfl
        refine J.seq ?_
        refine J.seq ?_
        refine J.region ?_
        refine JL.pure rfl rfl (OpP.move rfl) ?_
        refine JL.pure rfl rfl (OpP.move rfl) ?_
        refine JL.decT rfl rfl (OpP.lss rfl rfl) (by omega) ?_
        refine JL.nil ?_
        refine J.condT rfl ?_
        refine J.skip ?_
        refine J.seq ?_
        refine J.block ?_
        refine J.regionD [0] (by kernel_rfl) ?_
        refine DL.read (i := 0) (by kernel_rfl) (by kernel_rfl) rfl rfl rfl (fun _ h => h) (OpR.loadN rfl (Cells.full .head) (fB_length _ _)) ?_
        refine DL.pure (i := 1) (by kernel_rfl) (by kernel_rfl) rfl rfl rfl (OpP.move rfl) ?_
        refine DL.pure (i := 2) (by kernel_rfl) (by kernel_rfl) rfl rfl rfl (OpP.move rfl) ?_
        refine DL.pure (i := 3) (by kernel_rfl) (by kernel_rfl) rfl rfl rfl (OpP.mulI rfl rfl (by omega) (by omega)) ?_
        refine DL.pure (i := 4) (by kernel_rfl) (by kernel_rfl) rfl rfl rfl (OpP.move rfl) ?_
        refine DL.pure (i := 5) (by kernel_rfl) (by kernel_rfl) rfl rfl rfl (OpP.mulI rfl rfl (by omega) (by omega)) ?_
        refine DL.pure (i := 6) (by kernel_rfl) (by kernel_rfl) rfl rfl rfl (OpP.addI rfl rfl (by omega) (by omega)) ?_
        refine DL.pure (i := 7) (by kernel_rfl) (by kernel_rfl) rfl rfl rfl (OpP.sliceFTI rfl rfl rfl (by omega) (by omega) (by omega)) ?_
        refine DL.only (i := 8) (by kernel_rfl) ?_
        refine DL1.f1 ?_; refine DL1.stepF rfl rfl rfl (by kernel_rfl) (by exact OpW.call (first := []) (captured := []) inferInstance rfl rfl (BlockR_ok (i := i) hK hil (by first | assumption | omega | rfl) (by first | assumption | omega | rfl) (by first | assumption | omega | rfl))) ?_; rintro r66 _ ⟨rfl, rfl⟩
        refine DL.only (i := 9) (by kernel_rfl) ?_
        refine DL1.stepF0 rfl rfl (by kernel_rfl) (OpM.w (by apply OpM.storeN rfl rfl (fB_length _ _) fB_one; (case' hu => exact (.tail .head)); (case' hs => exact spl_all (by first | (rw [fB_length, List.length_replicate]; done) | (rw [fB_length, fB_length]; done) | (rw [fB_length, List.length_replicate]; rfl))); done)) ?_; rintro _ _ ⟨rfl, rfl⟩
        refine DL.done (by kernel_rfl) ?_
        refine J.inBlock ?_
        refine J.region ?_
        refine JL.pure rfl rfl (OpP.move rfl) ?_
        refine JL.pure rfl rfl (OpP.addI rfl rfl (by omega) (by omega)) ?_
        refine JL.pure rfl rfl (OpP.assign rfl) ?_
        refine JL.nil ?_
        refine back (i + 1) (by omega) (by omega) (by repeat (first | exact SubEnv.nil | refine SubEnv.cons (by first | rfl | exact congrArg (fun z => some (Value.int .i64 z)) (by omega) | (simp; done)) ?_)) (fun _ h => ?_)
        rw [he1]
        exact Own.f1 h
      · have : i = B := by omega
        subst this
        generalize eatV K begins L i = V
        clear back
        refine J.seq ?_
        refine J.seq ?_
        refine J.region ?_
        refine JL.pure rfl rfl (OpP.move rfl) ?_
        refine JL.pure rfl rfl (OpP.move rfl) ?_
        refine JL.decF rfl rfl (OpP.lss rfl rfl) (by omega) ?_
        refine JL.nil ?_
        refine J.condF rfl ?_
        refine J.exit rfl ?_
        refine J.seq ?_
        refine J.region ?_
        refine JL.mem rfl rfl OpM.alloc ?_; rintro _ _ ⟨b10, rfl, rfl⟩
        refine JL.nil ?_
        refine J.seq ?_
        refine J.seq ?_
        refine J.region ?_
        refine JL.pure rfl rfl (OpP.assign rfl) ?_
        refine JL.nil ?_
        refine J.block ?_
        refine J.loopI (fun i : Nat => 256 - i) (fun i => i ≤ 256) (fun i => [(11, .int .i64 (i : Nat)), (10, .pointer (some ⟨b10, 0, none⟩)), (7, .pointer (some ⟨b7, 0, none⟩)), (2, .pointer (some ⟨b2, 0, none⟩))])
          (fun i => row b10 25 (fc 32 fun q => u8c (outP V i q)) :: row b7 74 (fB 8 V) :: row b2 25 (List.replicate 32 (.int .u8 0)) :: F) 0 (Nat.zero_le _) (by repeat (first | exact SubEnv.nil | refine SubEnv.cons (by first | rfl | exact congrArg (fun z => some (Value.int .i64 z)) (by omega) | (simp; done)) ?_)) (fun _ h => by
            dsimp only
            rw [← fc_rep (f := fun q => u8c (outP V 0 q)) (v := .int .u8 0) (fun q _ => by rw [outP, Nat.zero_sub, show min 8 0 = 0 from rfl, topB_none]; rfl)]
            exact Own.pick (pre := [_, _, _, _]) [0, 1, 3] rfl h) (fun i hi back => ?_)
        dsimp only at hi back ⊢
        by_cases hlt : i < 256
        · have hat := outP_at V i
          have hne := fun q => outP_ne V (i := i) (q := q)
          have hsh : (0 : Int) ≤ 128 / 2 ^ ((i : Int) % 8).toNat := Int.ediv_nonneg (by decide) (Int.le_of_lt (Int.pow_pos (by decide)))
          have hsh2 : (128 : Int) / 2 ^ ((i : Int) % 8).toNat < 256 := Int.lt_of_le_of_lt (Int.ediv_le_self _ (by decide)) (by decide)
          refine J.seq ?_
          refine J.seq ?_
          refine J.region ?_
          refine JL.pure rfl rfl (OpP.move rfl) ?_
          refine JL.decT rfl rfl (OpP.lss rfl rfl) (by omega) ?_
          refine JL.nil ?_
          refine J.condT rfl ?_
          refine J.skip ?_
          refine J.seq ?_
          refine J.block ?_
          refine J.seq ?_
          refine J.region ?_
          refine JL.pure rfl rfl (OpP.move rfl) ?_
          refine JL.pure rfl rfl (OpP.quoI rfl rfl (by omega) (by omega) (by first | decide | (simp only [IntKind.max]; omega) | (simp [IntKind.max, IntKind.signed, IntKind.bits]; omega))) ?_
          refine JL.pure rfl rfl (OpP.move rfl) ?_
          refine JL.pure rfl rfl (OpP.remI rfl rfl (by first | omega | exact Int.natCast_nonneg _) (by omega)) ?_
          refine JL.pure rfl rfl (OpP.subI rfl rfl (by omega) (by omega)) ?_
          refine JL.pure rfl rfl (OpP.indexAddrA rfl rfl (by omega) (by omega)) ?_
          refine JL.pure rfl rfl (OpP.indexAddrA rfl rfl (by omega) (by omega)) ?_
          refine JL.read rfl rfl (OpR.load1 rfl (Cells.fB1 (.tail .head) (by omega) (by omega))) ?_
          refine JL.nil ?_
          refine J.splitAt 78 rfl (fun h78 => ?_) (fun h78 => ?_)
          focus
            refine J.condT rfl ?_
            refine J.region ?_
            refine JL.pure rfl rfl (OpP.move rfl) ?_
            refine JL.pure rfl rfl (OpP.quoI rfl rfl (by omega) (by omega) (by first | decide | (simp only [IntKind.max]; omega) | (simp [IntKind.max, IntKind.signed, IntKind.bits]; omega))) ?_
            refine JL.pure rfl rfl (OpP.indexAddrF rfl rfl (by omega) (by omega)) ?_
            refine JL.read rfl rfl (OpR.load1 rfl (cell_fc .head rfl (by omega))) ?_
            refine JL.pure rfl rfl (OpP.move rfl) ?_
            refine JL.pure rfl rfl (OpP.remI rfl rfl (by first | omega | exact Int.natCast_nonneg _) (by omega)) ?_
            refine JL.pure rfl rfl (OpP.convI rfl (by simp [IntKind.min, IntKind.max, IntKind.signed, IntKind.bits] <;> omega) (by simp [IntKind.min, IntKind.max, IntKind.signed, IntKind.bits] <;> omega)) ?_
            refine JL.pure rfl rfl (OpP.shrI rfl rfl (by omega) (by first | decide | (simp only [IntKind.bits]; omega))) ?_
            refine JL.pure rfl rfl (OpP.orU8 rfl rfl (by first | omega | assumption) (by first | omega | assumption)) ?_
            refine JL.pure rfl rfl (OpP.indexAddrF rfl rfl (by omega) (by omega)) ?_
            refine JL.mem0 rfl (by apply OpM.store1 rfl rfl rfl; (case' hu => exact .head); (case' hs => exact spl_fc rfl (by omega)); done) ?_; rintro _ _ ⟨rfl, rfl⟩
            refine JL.nil ?_
            refine J.inBlock ?_
            refine J.region ?_
            refine JL.pure rfl rfl (OpP.move rfl) ?_
            refine JL.pure rfl rfl (OpP.addI rfl rfl (by omega) (by omega)) ?_
            refine JL.pure rfl rfl (OpP.assign rfl) ?_
            refine JL.nil ?_
          rotate_left 1
          focus
            refine J.condF rfl ?_
            refine J.skip ?_
            refine J.inBlock ?_
            refine J.region ?_
            refine JL.pure rfl rfl (OpP.move rfl) ?_
            refine JL.pure rfl rfl (OpP.addI rfl rfl (by omega) (by omega)) ?_
            refine JL.pure rfl rfl (OpP.assign rfl) ?_
            refine JL.nil ?_
          rotate_left 1
          · refine back (i + 1) (by omega) (by omega) (by repeat (first | exact SubEnv.nil | refine SubEnv.cons (by first | rfl | exact congrArg (fun z => some (Value.int .i64 z)) (by omega) | (simp; done)) ?_)) (fun _ h => ?_)
            rw [show ((i : Int) / 32).toNat = i / 32 by omega, show ((31 : Int) - (i : Int) % 32).toNat = 31 - i % 32 by omega] at h78
            rw [h78, if_pos rfl] at hat
            rw [show ((i : Int) / 8).toNat = i / 8 by omega, show ((i : Int) % 8).toNat = i % 8 by omega, pow128, ← hat] at h
            rw [fc_congr (n := 32) (f := fun q => u8c (outP V (i + 1) q)) (g := upd (fun q => u8c (outP V i q)) (i / 8) (u8c (outP V (i + 1) (i / 8)))) fun q _ => by
              unfold upd
              by_cases hq : q = i / 8
              · subst hq; rw [if_pos rfl]
              · rw [if_neg hq, hne q hq]]
            exact h
          · refine back (i + 1) (by omega) (by omega) (by repeat (first | exact SubEnv.nil | refine SubEnv.cons (by first | rfl | exact congrArg (fun z => some (Value.int .i64 z)) (by omega) | (simp; done)) ?_)) (fun _ h => ?_)
            rw [show ((i : Int) / 32).toNat = i / 32 by omega, show ((31 : Int) - (i : Int) % 32).toNat = 31 - i % 32 by omega] at h78
            rw [h78, if_neg (by decide)] at hat
            rw [fc_congr (n := 32) (f := fun q => u8c (outP V (i + 1) q)) (g := fun q => u8c (outP V i q)) fun q _ => by
              by_cases hq : q = i / 8
              · subst hq; rw [hat]
              · rw [hne q hq]]
            exact h
        · have : i = 256 := by omega
          subst this
          rw [show (fc 32 fun q => u8c (outP V 256 q)) = fc 32 (byteOf V) from fc_congr fun q hq => outP_end V hq]
          refine J.seq ?_
          refine J.seq ?_
          refine J.region ?_
          refine JL.pure rfl rfl (OpP.move rfl) ?_
          refine JL.decF rfl rfl (OpP.lss rfl rfl) (by omega) ?_
          refine JL.nil ?_
          refine J.condF rfl ?_
          refine J.exit rfl ?_
          refine J.seq ?_
          refine J.region ?_
          refine JL.read rfl rfl (OpR.loadN rfl (Cells.full .head) rfl) ?_
          refine JL.mem0 rfl (by apply OpM.storeN rfl rfl (fc_length _ _) (fc_one fun _ => rfl); (case' hu => exact (.tail (.tail .head))); (case' hs => exact spl_all (by rfl)); done) ?_; rintro _ _ ⟨rfl, rfl⟩
          refine JL.nil ?_
          refine J.retC rfl rfl (by apply Cells.full; (with_reducible repeat (first | exact .head | apply Has.tail))) (by first | exact fc_length _ _ | exact fB_length _ _ | rfl) ?_
          exact ⟨_, ⟨by rw [bytesV_cells], rfl⟩, fun _ h => h.tail.tail.tail⟩
end Go.Proofs.B
