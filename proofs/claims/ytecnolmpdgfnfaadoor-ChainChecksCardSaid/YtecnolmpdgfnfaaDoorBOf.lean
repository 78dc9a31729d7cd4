/- A text of the proof of a statement about the given program: its part BOf. No person has read it. -/
import Derived.Test.YtecnolmpdgfnfaaDoorBSha6
import Derived.Test.YtecnolmpdgfnfaaDoorBPad
import Derived.Test.YtecnolmpdgfnfaaDoorJ25
-- seat b
namespace Go.Proofs.B
open Go Go.Gp Go.RowKit

theorem Write_ok {w0 : World} {F : List HProp} {g : Nat} {K : Ws} {all : List UInt8} {z v : Value} {ps : List (Value × List UInt8)} (hK : Tab w0 0 64 fun j => w32 (K j)) (hn : all.length + (cat ps).length ≤ 1000000) (hpl : ps.length ≤ 9223372036854775807) (hp : Parts w0 F v ps) :
    FnO Tryd.prog w0 19 [.pointer (some ⟨g, 0, none⟩), v] (row g 48 (stC K all z) :: own 5 1 z (stL all).length (bcells (stL all)) :: F)
      (fun _ l' => ∃ s', l' = row g 48 (stC K (all ++ cat ps) s') :: own 5 1 s' (stL (all ++ cat ps)).length (bcells (stL (all ++ cat ps))) :: F) := by
  refine FnO.rdF (fun _ h => h.tail.tail) hp.rd fun hr0 => ?_
  obtain ⟨va, vc, rfl⟩ := hr0.lit
  refine FnO.weak ?_
  refine FnO.intro (n := 16) Tryd.func19 rfl rfl rfl ?_
  refine J.lit (.tail .head) fun az cz ez => ?_; subst ez
  refine J.seq ?_
  refine J.region ?_
  refine JL.pure rfl rfl (OpP.move rfl) ?_
  refine JL.pure rfl rfl (OpP.len rfl rfl) ?_
  refine JL.pure rfl rfl (OpP.move rfl) ?_
  refine JL.nil ?_
  refine J.block ?_
  refine J.loopI (fun x : Nat × Value => ps.length - x.1) (fun x => x.1 ≤ ps.length) (fun x => [(8, .int .i64 (x.1 : Nat)), (7, .int .i64 (ps.length : Nat)), (6, .slice va ps.length vc), (0, .pointer (some ⟨g, 0, none⟩))])
    (fun x => row g 48 (stC K (all ++ cat (ps.take x.1)) x.2) :: own 5 1 x.2 (stL (all ++ cat (ps.take x.1))).length (bcells (stL (all ++ cat (ps.take x.1)))) :: F) (0, .slice az (stL all).length cz) (Nat.zero_le _) (by repeat (first | exact SubEnv.nil | refine SubEnv.cons (by first | rfl | exact congrArg (fun z => some (Value.int .i64 z)) (by omega) | (simp; done)) ?_)) (fun _ h => by rw [List.take_zero, show all ++ cat [] = all from List.append_nil _]; exact h) (fun ⟨i, sv⟩ hi back => ?_)
  dsimp only at hi back ⊢
  by_cases hlt : i < ps.length
  · obtain ⟨pa, pc, p, hpi, hpv, hpr⟩ := hp.at hlt
    have hct := cat_take hpi
    have hcl := cat_take_le ps (i + 1)
    rw [hct, List.length_append] at hcl
    have hn1 : (all ++ cat (ps.take i)).length + p.length ≤ 1000000 := by rw [List.length_append]; omega
    refine J.lit (.tail .head) fun asv csv esv => ?_; subst esv
    refine J.seq ?_
    refine J.region ?_
    refine JL.decT rfl rfl (OpP.lss rfl rfl) (by omega) ?_
    refine JL.nil ?_
    refine J.seq ?_
    refine J.condT rfl ?_
    refine J.skip ?_
    refine J.seq ?_
    refine J.block ?_
    refine J.seq ?_
    refine J.region ?_
    obtain ⟨gva, pva, qva, eva, kva, cva⟩ := hr0.pos (by omega); cases eva
    refine JL.pure rfl rfl (OpP.indexAddr rfl rfl (by omega) (by omega)) ?_
    refine JL.read rfl rfl (OpR.load1 rfl (by apply Cells.cell cva (fun _ h => Own.pick (pre := [_, _]) [] rfl h); (case' hv => assumption); (case' ho => omega); done)) ?_
    refine JL.pure rfl rfl (OpP.assign rfl) ?_
    refine JL.nil ?_
    refine J.region ?_
    refine JL.pure rfl rfl (OpP.move rfl) ?_
    refine JL.pure rfl rfl (OpP.move rfl) ?_
    refine JL.step rfl rfl (OpW.call (first := []) (captured := []) inferInstance rfl rfl (Take_ok (b := p) hK hn1 hpr)) ?_; rintro r14 _ ⟨s', rfl⟩
    refine JL.lit (.tail .head) fun as' cs' es' => ?_; subst es'
    refine JL.nil ?_
    refine J.inBlock ?_
    refine J.region ?_
    refine JL.pure rfl rfl (OpP.addI rfl rfl (by omega) (by omega)) ?_
    refine JL.pure rfl rfl (OpP.move rfl) ?_
    refine JL.nil ?_
    refine back (i + 1, .slice as' (stL (all ++ cat (ps.take i) ++ p)).length cs') (by dsimp only; omega) (by dsimp only; omega) (by repeat (first | exact SubEnv.nil | refine SubEnv.cons (by first | rfl | exact congrArg (fun z => some (Value.int .i64 z)) (by omega) | (simp; done)) ?_)) (fun _ h => ?_)
    dsimp only
    rw [hct, ← List.append_assoc]
    exact h
  · have : i = ps.length := by omega
    subst this
    rw [List.take_length]
    refine J.lit (.tail .head) fun asv csv esv => ?_; subst esv
    refine J.seq ?_
    refine J.region ?_
    refine JL.decF rfl rfl (OpP.lss rfl rfl) (by omega) ?_
    refine JL.nil ?_
    refine J.seq ?_
    refine J.condF rfl ?_
    refine J.exit rfl ?_
    refine J.fin0 rfl ?_
    exact ⟨_, ⟨_, rfl⟩, fun _ h => h⟩
theorem wrap_u8 (a : Int) : IntKind.u8.wrap a = a % 256 := by
  simp [IntKind.wrap, IntKind.signed, IntKind.bits]
theorem sizeByte {n j : Nat} (hj : j < 8) : Value.int .u8 (IntKind.u8.wrap ((8 * n / 2 ^ ((56 : Int) - 8 * (j : Int)).toNat : Nat) : Int)) = u8c (UInt8.ofNat (8 * n / 256 ^ (7 - j))) := by
  have h : 2 ^ ((56 : Int) - 8 * (j : Int)).toNat = 256 ^ (7 - j) := by
    rw [show ((56 : Int) - 8 * (j : Int)).toNat = 8 * (7 - j) by omega, Nat.pow_mul]
  rw [h, wrap_u8, u8c, UInt8.toNat_ofNat']
  rfl
theorem be8_take (m : Nat) {j : Nat} (hj : j < 8) : (be8 m).take (j + 1) = (be8 m).take j ++ [UInt8.ofNat (m / 256 ^ (7 - j))] := by
  rw [List.take_add_one, be8_at hj]; rfl
theorem Sum_ok {w0 : World} {F : List HProp} {g : Nat} {K : Ws} {all : List UInt8} {z : Value} (hK : Tab w0 0 64 fun j => w32 (K j)) (hn : all.length ≤ 900000) :
    FnO Tryd.prog w0 20 [.pointer (some ⟨g, 0, none⟩)] (row g 48 (stC K all z) :: own 5 1 z (stL all).length (bcells (stL all)) :: F)
      (fun v l' => v = .agg (bcells (shaB K all)).toArray ∧ l' = row g 48 (stC K all z) :: own 5 1 z (stL all).length (bcells (stL all)) :: F) := by
  have hl := stL_length all
  refine FnO.weak ?_
  refine FnO.intro (n := 48) Tryd.func20 rfl rfl rfl ?_
  refine J.lit (.tail .head) fun az cz ez => ?_; subst ez
  refine J.seq ?_
  refine J.region ?_
  refine JL.mem rfl rfl OpM.alloc ?_; rintro _ _ ⟨b2, rfl, rfl⟩
  refine JL.nil ?_
  refine J.seq ?_
  refine J.region ?_
  refine JL.pure rfl rfl (OpP.move rfl) ?_
  refine JL.f2 ?_; refine JL.f2 ?_; refine JL.step rfl rfl (OpW.call (first := []) (captured := []) inferInstance rfl rfl Clone_ok) ?_; rintro r8 _ ⟨g2, ⟨s2, ⟨rfl, rfl⟩⟩⟩
  refine JL.lit (.tail .head) fun as2 cs2 es2 => ?_; subst es2
  refine JL.pure rfl rfl (OpP.assign rfl) ?_
  refine JL.nil ?_
  refine J.seq ?_
  refine J.region ?_
  refine JL.mem rfl rfl (by apply OpM.buildSlice (by rfl) rfl (by rfl); (repeat (first | exact Fills.nil | (apply Fills.cons rfl rfl rfl; (case' hs => ((repeat (first | exact Spl.nil | apply Spl.here | apply Spl.there)); done)))))) ?_; rintro _ _ ⟨b9, rfl, rfl⟩
  refine JL.pure rfl rfl (OpP.assign rfl) ?_
  refine JL.nil ?_
  refine J.seq ?_
  refine J.block ?_
  refine J.ownRow (n := 1) (sz := 1) (by decide) rfl ?_
  unfold stC
  refine J.loopI (fun x : Nat × Value => 64 - x.1) (fun x => x.1 ≤ (119 - all.length % 64) % 64) (fun x => [(4, x.2), (3, .pointer (some ⟨g2, 0, none⟩)), (2, .pointer (some ⟨b2, 0, none⟩)), (0, .pointer (some ⟨g, 0, none⟩))])
    (fun x => own 5 1 x.2 (1 + x.1) (bcells (128 :: List.replicate x.1 0)) :: row g2 48 (fc 8 (fun j => w32 (stV K all j)) ++ [.slice as2 (stL all).length cs2, .int .u64 (all.length : Nat)]) :: own 5 1 (.slice as2 (stL all).length cs2) (stL all).length (bcells (stL all)) :: row g 48 (fc 8 (fun j => w32 (stV K all j)) ++ [.slice az (stL all).length cz, .int .u64 (all.length : Nat)]) :: own 5 1 (.slice az (stL all).length cz) (stL all).length (bcells (stL all)) :: row b2 26 (List.replicate 32 (.int .u8 0)) :: F) (0, .slice (some ⟨b9, 0, none⟩) 1 1) (Nat.zero_le _) (by repeat (first | exact SubEnv.nil | refine SubEnv.cons (by first | rfl | exact congrArg (fun z => some (Value.int .i64 z)) (by omega) | (simp; done)) ?_)) (fun _ h => by rw [show bcells (128 :: List.replicate 0 0) = [Value.int .u8 128] from rfl]; exact h) (fun ⟨k, ev⟩ hk back => ?_)
  dsimp only at hk back ⊢
  by_cases hlt : k < (119 - all.length % 64) % 64
  · refine J.lit .head fun aev cev eev => ?_; subst eev
    refine J.seq ?_
    refine J.seq ?_
    refine J.region ?_
    refine JL.pure rfl rfl (OpP.move rfl) ?_
    refine JL.pure rfl rfl (OpP.nilCheck rfl) ?_
    refine JL.pure rfl rfl (OpP.fieldAddr rfl) ?_
    refine JL.pure rfl rfl (OpP.fieldAddr rfl) ?_
    refine JL.read rfl rfl (OpR.load1 rfl (Cell.row (.tail .head) rfl)) ?_
    refine JL.pure rfl rfl (OpP.len rfl rfl) ?_
    refine JL.pure rfl rfl (OpP.move rfl) ?_
    refine JL.pure rfl rfl (OpP.len rfl rfl) ?_
    refine JL.pure rfl rfl (OpP.addI rfl rfl (by omega) (by omega)) ?_
    refine JL.pure rfl rfl (OpP.remI rfl rfl (by first | omega | exact Int.natCast_nonneg _) (by omega)) ?_
    refine JL.decT rfl rfl (OpP.neq rfl rfl) (by omega) ?_
    refine JL.nil ?_
    refine J.condT rfl ?_
    refine J.skip ?_
    refine J.block ?_
    refine J.region ?_
    refine JL.pure rfl rfl (OpP.move rfl) ?_
    refine JL.mem rfl rfl (by apply OpM.buildSlice (by rfl) rfl (by rfl); (repeat (first | exact Fills.nil | (apply Fills.cons rfl rfl rfl; (case' hs => ((repeat (first | exact Spl.nil | apply Spl.here | apply Spl.there)); done)))))) ?_; rintro _ _ ⟨b22, rfl, rfl⟩
    refine JL.f1 ?_; refine JL.mem rfl rfl (OpM.appendH rfl (.inl ⟨_, Sl.und inferInstance⟩) (by rfl) rfl rfl (RdO.src (RdO.ofRow (.tail .head) (by first | decide | omega)) (by first | assumption | exact fc_length _ _ | (simp; done) | (simp; omega))) (one1 rfl) (by simp only [maxLen]; omega) (by omega)) ?_; rintro _ _ ⟨⟨a23, c23, rfl⟩, rfl⟩
    refine JL.pure rfl rfl (OpP.assign rfl) ?_
    refine JL.nil ?_
    refine J.inBlock ?_
    refine back (k + 1, .slice a23 (1 + k + 1) c23) (by dsimp only; omega) (by dsimp only; omega) (by repeat (first | exact SubEnv.nil | refine SubEnv.cons (by first | rfl | exact congrArg (fun z => some (Value.int .i64 z)) (by omega) | (simp; done)) ?_)) (fun _ h => ?_)
    dsimp only
    rw [List.replicate_succ', ← List.cons_append, bcells_app, show bcells [0] = [Value.int .u8 0] from rfl]
    exact Own.pick (pre := [_, _]) [0] rfl h
  · have hke : k = (119 - all.length % 64) % 64 := by omega
    clear back
    refine J.lit .head fun aev cev eev => ?_; subst eev
    refine J.seq ?_
    refine J.seq ?_
    refine J.region ?_
    refine JL.pure rfl rfl (OpP.move rfl) ?_
    refine JL.pure rfl rfl (OpP.nilCheck rfl) ?_
    refine JL.pure rfl rfl (OpP.fieldAddr rfl) ?_
    refine JL.pure rfl rfl (OpP.fieldAddr rfl) ?_
    refine JL.read rfl rfl (OpR.load1 rfl (Cell.row (.tail .head) rfl)) ?_
    refine JL.pure rfl rfl (OpP.len rfl rfl) ?_
    refine JL.pure rfl rfl (OpP.move rfl) ?_
    refine JL.pure rfl rfl (OpP.len rfl rfl) ?_
    refine JL.pure rfl rfl (OpP.addI rfl rfl (by omega) (by omega)) ?_
    refine JL.pure rfl rfl (OpP.remI rfl rfl (by first | omega | exact Int.natCast_nonneg _) (by omega)) ?_
    refine JL.decF rfl rfl (OpP.neq rfl rfl) (by omega) ?_
    refine JL.nil ?_
    refine J.condF rfl ?_
    refine J.exit rfl ?_
    refine J.seq ?_
    refine J.region ?_
    refine JL.pure rfl rfl (OpP.move rfl) ?_
    refine JL.pure rfl rfl (OpP.nilCheck rfl) ?_
    refine JL.pure rfl rfl (OpP.fieldAddr rfl) ?_
    refine JL.pure rfl rfl (OpP.fieldAddr rfl) ?_
    refine JL.read rfl rfl (OpR.load1 rfl (Cell.row (.tail (.tail (.tail .head))) rfl)) ?_
    refine JL.pure rfl rfl (OpP.mulK rfl rfl (by simp [IntKind.min, IntKind.max, IntKind.signed, IntKind.bits] <;> omega) (by simp [IntKind.min, IntKind.max, IntKind.signed, IntKind.bits] <;> omega)) ?_
    refine JL.pure rfl rfl (OpP.assign rfl) ?_
    refine JL.nil ?_
    refine J.seq ?_
    refine J.seq ?_
    refine J.region ?_
    refine JL.pure rfl rfl (OpP.assign rfl) ?_
    refine JL.nil ?_
    refine J.block ?_
    have hpad : padP all.length = (128 :: List.replicate k 0) ++ be8 (8 * all.length) := by rw [padP, ← hke]; rfl
    have hsha : shaB K all = bytesV (stV K (all ++ ((128 :: List.replicate k 0) ++ be8 (8 * all.length)))) := by rw [shaB, hpad]
    rw [hsha]
    have hkl : (128 :: List.replicate k (0 : UInt8)).length = 1 + k := by rw [List.length_cons, List.length_replicate, Nat.add_comm]
    have hk64 : k < 64 := by omega
    generalize 128 :: List.replicate k (0 : UInt8) = pre at hkl ⊢
    refine J.loopI (fun x : Nat × Value => 8 - x.1) (fun x => x.1 ≤ 8) (fun x => [(6, .int .i64 (56 - 8 * (x.1 : Nat))), (5, .int .u64 (8 * (all.length : Nat))), (4, x.2), (3, .pointer (some ⟨g2, 0, none⟩)), (2, .pointer (some ⟨b2, 0, none⟩))])
      (fun x => own 5 1 x.2 (1 + k + x.1) (bcells (pre ++ (be8 (8 * all.length)).take x.1)) :: row g2 48 (fc 8 (fun j => w32 (stV K all j)) ++ [.slice as2 (stL all).length cs2, .int .u64 (all.length : Nat)]) :: own 5 1 (.slice as2 (stL all).length cs2) (stL all).length (bcells (stL all)) :: row g 48 (fc 8 (fun j => w32 (stV K all j)) ++ [.slice az (stL all).length cz, .int .u64 (all.length : Nat)]) :: own 5 1 (.slice az (stL all).length cz) (stL all).length (bcells (stL all)) :: row b2 26 (List.replicate 32 (.int .u8 0)) :: F) (0, .slice aev (1 + k) cev) (Nat.zero_le _) (by repeat (first | exact SubEnv.nil | refine SubEnv.cons (by first | rfl | exact congrArg (fun z => some (Value.int .i64 z)) (by omega) | (simp; done)) ?_)) (fun _ h => by rw [List.take_zero, List.append_nil]; exact h) (fun ⟨j, ev⟩ hj back => ?_)
    dsimp only at hj back ⊢
    by_cases hlt : j < 8
    · have hb := sizeByte (n := all.length) hlt
      have hbt := be8_take (8 * all.length) hlt
      refine J.lit .head fun aev cev eev => ?_; subst eev
      refine J.seq ?_
      refine J.seq ?_
      refine J.region ?_
      refine JL.pure rfl rfl (OpP.move rfl) ?_
      refine JL.decT rfl rfl (OpP.geq rfl rfl) (by omega) ?_
      refine JL.nil ?_
      refine J.condT rfl ?_
      refine J.skip ?_
      refine J.seq ?_
      refine J.block ?_
      refine J.region ?_
      refine JL.pure rfl rfl (OpP.move rfl) ?_
      refine JL.pure rfl rfl (OpP.move rfl) ?_
      refine JL.pure rfl rfl (OpP.move rfl) ?_
      refine JL.pure rfl rfl (OpP.shrN rfl rfl (by omega) (by first | decide | (simp only [IntKind.bits]; omega))) ?_
      refine JL.pure rfl rfl (OpP.conv rfl) ?_
      refine JL.mem rfl rfl (by apply OpM.buildSlice (by rfl) rfl (by rfl); (repeat (first | exact Fills.nil | (apply Fills.cons rfl rfl rfl; (case' hs => ((repeat (first | exact Spl.nil | apply Spl.here | apply Spl.there)); done)))))) ?_; rintro _ _ ⟨b39, rfl, rfl⟩
      refine JL.f1 ?_; refine JL.mem rfl rfl (OpM.appendH rfl (.inl ⟨_, Sl.und inferInstance⟩) (by rfl) rfl rfl (RdO.src (RdO.ofRow (.tail .head) (by first | decide | omega)) (by first | assumption | exact fc_length _ _ | (simp; done) | (simp; omega))) (one1 rfl) (by simp only [maxLen]; omega) (by omega)) ?_; rintro _ _ ⟨⟨a40, c40, rfl⟩, rfl⟩
      refine JL.pure rfl rfl (OpP.assign rfl) ?_
      refine JL.nil ?_
      refine J.inBlock ?_
      refine J.region ?_
      refine JL.pure rfl rfl (OpP.move rfl) ?_
      refine JL.pure rfl rfl (OpP.subI rfl rfl (by omega) (by omega)) ?_
      refine JL.pure rfl rfl (OpP.assign rfl) ?_
      refine JL.nil ?_
      refine back (j + 1, .slice a40 (1 + k + j + 1) c40) (by dsimp only; omega) (by dsimp only; omega) (by repeat (first | exact SubEnv.nil | refine SubEnv.cons (by first | rfl | exact congrArg (fun z => some (Value.int .i64 z)) (by omega) | (simp; done)) ?_)) (fun _ h => ?_)
      dsimp only
      rw [hb] at h
      rw [hbt, ← List.append_assoc, bcells_app]
      exact Own.pick (pre := [_, _]) [0] rfl h
    · have : j = 8 := by omega
      subst this
      rw [List.take_of_length_le (Nat.le_of_eq (be8_length _))]
      have hlen : (pre ++ be8 (8 * all.length)).length = 1 + k + 8 := by rw [List.length_append, hkl, be8_length]
      have hn2 : all.length + (pre ++ be8 (8 * all.length)).length ≤ 1000000 := by omega
      clear back
      generalize pre ++ be8 (8 * all.length) = e at hlen hn2 ⊢
      rw [← hlen]
      refine J.lit .head fun aev cev eev => ?_; subst eev
      refine J.seq ?_
      refine J.seq ?_
      refine J.region ?_
      refine JL.pure rfl rfl (OpP.move rfl) ?_
      refine JL.decF rfl rfl (OpP.geq rfl rfl) (by omega) ?_
      refine JL.nil ?_
      refine J.condF rfl ?_
      refine J.exit rfl ?_
      refine J.seq ?_
      refine J.region ?_
      refine JL.pure rfl rfl (OpP.move rfl) ?_
      refine JL.pure rfl rfl (OpP.move rfl) ?_
      refine JL.f2 ?_; refine JL.f2 ?_; refine JL.step rfl rfl (OpW.call (first := []) (captured := []) inferInstance rfl rfl (Take_ok (b := e) hK hn2 (RdO.own .head))) ?_; rintro r43 _ ⟨s', rfl⟩
      refine JL.lit (.tail .head) fun as' cs' es' => ?_; subst es'
      refine JL.nil ?_
      refine J.seq ?_
      refine J.region ?_
      refine JL.pure rfl rfl (OpP.move rfl) ?_
      refine JL.pure rfl rfl (OpP.nilCheck rfl) ?_
      refine JL.pure rfl rfl (OpP.fieldAddr rfl) ?_
      refine JL.step rfl rfl (OpW.call (first := []) (captured := []) inferInstance rfl rfl Told_ok) ?_; rintro r47 _ ⟨rfl, rfl⟩
      refine JL.mem0 rfl (by apply OpM.storeN rfl rfl (fc_length _ _) (fc_one fun _ => rfl); (case' hu => exact (.tail (.tail (.tail (.tail (.tail .head)))))); (case' hs => exact spl_all (by rfl)); done) ?_; rintro _ _ ⟨rfl, rfl⟩
      refine JL.nil ?_
      refine J.retC rfl rfl (by apply Cells.full; (with_reducible repeat (first | exact .head | apply Has.tail))) (by first | (rw [bcells_length]; first | assumption | exact Go.Proofs.B.shaB_length _ _ | solve_by_elim) | exact fc_length _ _ | exact fB_length _ _ | rfl) ?_
      exact ⟨_, ⟨by rw [bytesV_cells], rfl⟩, fun _ h => Own.pick (pre := [_, _, _, _, _, _]) [3, 4] rfl h⟩
theorem Size_ok {w0 : World} {F : List HProp} {g : Nat} {K : Ws} {all : List UInt8} {z : Value} :
    FnO Tryd.prog w0 21 [.pointer (some ⟨g, 8, none⟩)] (row g 48 (stC K all z) :: F) (fun v l' => v = .int .u64 (all.length : Nat) ∧ l' = row g 48 (stC K all z) :: F) := by
  unfold stC
  refine FnO.intro (n := 7) Tryd.func21 rfl rfl rfl ?_
  refine J.seq ?_
  refine J.region ?_
  refine JL.pure rfl rfl (OpP.assign rfl) ?_
  refine JL.nil ?_
  refine J.seq ?_
  refine J.region ?_
  refine JL.pure rfl rfl (OpP.move rfl) ?_
  refine JL.pure rfl rfl (OpP.nilCheck rfl) ?_
  refine JL.pure rfl rfl (OpP.fieldAddr rfl) ?_
  refine JL.read rfl rfl (OpR.load1 rfl (Cell.row .head rfl)) ?_
  refine JL.pure rfl rfl (OpP.assign rfl) ?_
  refine JL.nil ?_
  refine J.ret1 rfl rfl ?_
  exact ⟨rfl, rfl⟩
theorem New0_ok {w0 : World} {F : List HProp} {K : Ws} :
    FnO Tryd.prog w0 18 [] F (fun v l' => ∃ g, v = .pointer (some ⟨g, 0, none⟩) ∧ l' = row g 48 (stC K [] (.slice none 0 0)) :: own 5 1 (.slice none 0 0) (stL []).length (bcells (stL [])) :: F) := by
  refine FnO.weak (New_ok.mono ?_)
  rintro v l' ⟨g, rfl, rfl⟩
  exact ⟨_, ⟨g, rfl, rfl⟩, fun w h => Own.f1 (Own.own_nil (e := 5) (sz := 1) h)⟩
theorem Of_ok {w0 : World} {F : List HProp} {K : Ws} {v : Value} {ps : List (Value × List UInt8)} (hK : Tab w0 0 64 fun j => w32 (K j)) (hn : (cat ps).length ≤ 900000) (hpl : ps.length ≤ 9223372036854775807) (hp : Parts w0 F v ps) :
    FnO Tryd.prog w0 15 [v] F (fun r l' => r = .agg (bcells (shaB K (cat ps))).toArray ∧ l' = F) := by
  refine FnO.weak ?_
  refine FnO.intro (n := 10) Tryd.func15 rfl rfl rfl ?_
  have hn1 : ([] : List UInt8).length + (cat ps).length ≤ 1000000 := by rw [List.length_nil]; omega
  refine J.seq ?_
  refine J.region ?_
  refine JL.mem rfl rfl OpM.alloc ?_; rintro _ _ ⟨b2, rfl, rfl⟩
  refine JL.nil ?_
  refine J.seq ?_
  refine J.region ?_
  refine JL.step rfl rfl (OpW.call (first := []) (captured := []) inferInstance rfl rfl (New0_ok (K := K))) ?_; rintro r4 _ ⟨g, ⟨rfl, rfl⟩⟩
  refine JL.pure rfl rfl (OpP.assign rfl) ?_
  refine JL.nil ?_
  refine J.seq ?_
  refine J.region ?_
  refine JL.pure rfl rfl (OpP.move rfl) ?_
  refine JL.pure rfl rfl (OpP.move rfl) ?_
  refine JL.step rfl rfl (OpW.call (first := []) (captured := []) inferInstance rfl rfl (Write_ok hK hn1 hpl (hp.conv (fun _ h => Own.pick (pre := [_]) [] rfl h)))) ?_; rintro r7 _ ⟨s', rfl⟩
  refine JL.lit (.tail .head) fun as' cs' es' => ?_; subst es'
  refine JL.nil ?_
  refine J.seq ?_
  refine J.region ?_
  refine JL.pure rfl rfl (OpP.move rfl) ?_
  refine JL.step rfl rfl (OpW.call (first := []) (captured := []) inferInstance rfl rfl (Sum_ok hK (by first | assumption | omega | rfl | exact Nat.le_of_ble_eq_true rfl | (simp; omega)))) ?_; rintro r9 _ ⟨rfl, rfl⟩
  refine JL.mem0 rfl (by apply OpM.storeN rfl rfl (by rw [bcells_length]; first | assumption | exact Go.Proofs.B.shaB_length _ _ | solve_by_elim) (bcells_one _); (case' hu => exact (.tail (.tail .head))); (case' hs => exact spl_all (by first | (rw [bcells_length, List.length_replicate]; first | assumption | exact Go.Proofs.B.shaB_length _ _ | solve_by_elim) | (rw [bcells_length, bcells_length]; first | assumption | exact Go.Proofs.B.shaB_length _ _ | solve_by_elim) | (rw [bcells_length]; first | assumption | exact Go.Proofs.B.shaB_length _ _ | solve_by_elim))); done) ?_; rintro _ _ ⟨rfl, rfl⟩
  refine JL.nil ?_
  refine J.retC rfl rfl (by apply Cells.full; (with_reducible repeat (first | exact .head | apply Has.tail))) (by first | (rw [bcells_length]; first | assumption | exact Go.Proofs.B.shaB_length _ _ | solve_by_elim) | exact fc_length _ _ | exact fB_length _ _ | rfl) ?_
  exact ⟨_, ⟨rfl, rfl⟩, fun _ h => h.tail.tail.tail⟩
end Go.Proofs.B
