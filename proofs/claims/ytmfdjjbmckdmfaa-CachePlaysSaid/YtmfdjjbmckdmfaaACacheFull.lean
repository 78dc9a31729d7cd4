/- A text of the proof of a statement about the given program: its part ACacheFull. No person has read it. -/
import Derived.Test.YtmfdjjbmckdmfaaACachePure
import Derived.Test.YtmfdjjbmckdmfaaJ17
-- seat a
namespace Go.Proofs.A
open Go Go.Gp Go.RowKit

theorem capOf_max {n : Int} : max (min n 16) 0 = (capOf n : Int) := by unfold capOf; omega

theorem CacheFull_ok {w0 : World} {n : Int} {l : List OpC} {v : Value} (hr : Rd w0 [] v l.length (l.flatMap ocl)) (ho : ∀ o ∈ l, o.Ok w0) :
    FnO Try.prog w0 10 [.int .i64 n, v] [] (fun u _ => u = .bool true) := by
  obtain ⟨a, c, rfl⟩ := hr.lit
  refine FnO.intro (n := 75) Try.func10 rfl rfl rfl ?_
  refine J.seq ?_
  refine J.region ?_
  refine JL.pure rfl rfl (OpP.assign rfl) ?_
  refine JL.nil ?_
  refine J.seq ?_
  refine J.seq ?_
  refine J.region ?_
  refine JL.step rfl rfl (OpW.call (first := []) (captured := []) inferInstance rfl rfl Cawake_ok) ?_; rintro r10 _ ⟨rfl, rfl⟩
  refine JL.pure rfl rfl (OpP.notB rfl) ?_
  refine JL.pure rfl rfl (OpP.move rfl) ?_
  refine JL.pure rfl rfl (OpP.move rfl) ?_
  refine JL.step rfl rfl (OpW.call (first := []) (captured := []) inferInstance rfl rfl (Few_ok hr ho (by decide))) ?_; rintro r14 _ ⟨rfl, ⟨b, ⟨rfl, h14⟩⟩⟩
  refine JL.pure rfl rfl (OpP.notB rfl) ?_
  refine JL.pure rfl rfl (OpP.pickF rfl rfl) ?_
  refine JL.nil ?_
  refine J.splitAt 16 rfl (fun h16 => ?_) (fun h16 => ?_)
  focus
    refine J.condT rfl ?_
    refine J.seq ?_
    refine J.region ?_
    refine JL.step rfl rfl (OpW.call (first := []) (captured := []) inferInstance rfl rfl Cawake_ok) ?_; rintro r17 _ ⟨rfl, rfl⟩
    refine JL.pure rfl rfl (OpP.assign rfl) ?_
    refine JL.nil ?_
    refine J.ret1 rfl rfl ?_
  rotate_left 1
  focus
    refine J.condF rfl ?_
    refine J.skip ?_
    refine J.seq ?_
    refine J.region ?_
    refine JL.pure rfl rfl (OpP.move rfl) ?_
    refine JL.step rfl rfl (OpW.call (first := []) (captured := []) inferInstance rfl rfl ENew_ok) ?_; rintro r19 _ ⟨g, ⟨rfl, rfl⟩⟩
    refine JL.pure rfl rfl (OpP.assign rfl) ?_
    refine JL.nil ?_
    refine J.seq ?_
    refine J.region ?_
    refine JL.pure rfl rfl (OpP.move rfl) ?_
    refine JL.pure rfl rfl (OpP.min rfl rfl) ?_
    refine JL.pure rfl rfl (OpP.max rfl rfl) ?_
    refine JL.pure rfl rfl (OpP.assign rfl) ?_
    refine JL.nil ?_
    refine J.seq ?_
    refine J.seq ?_
    refine J.region ?_
    refine JL.pure rfl rfl (OpP.assign rfl) ?_
    refine JL.nil ?_
    refine J.block ?_
  rotate_left 1
  · rfl
  obtain ⟨hl60, hfew⟩ := h14 (by simpa using h16)
  rw [capOf_max]
  refine J.loopI (fun x : Nat × List E => l.length - x.1) (fun x => x.1 ≤ l.length ∧ KeysOnce x.2 ∧ x.2.length ≤ capOf n) (fun x => [(7, .int .i64 (x.1 : Nat)), (6, .int .i64 (capOf n : Nat)), (5, .pointer (some ⟨g, 0, none⟩)), (1, .slice a l.length c)])
    (fun x => [cacheE g (capOf n) x.2]) (0, []) ⟨Nat.zero_le _, by simp [KeysOnce], Nat.zero_le _⟩ (by repeat (first | exact SubEnv.nil | refine SubEnv.cons (by first | rfl | exact congrArg (fun z => some (Value.int .i64 z)) (by omega) | (simp; done)) ?_)) (fun _ h => h) (fun ⟨i, L⟩ ⟨hi, hk, hlen⟩ back => ?_)
  dsimp only at hi hk hlen back ⊢
  have h8 := ocl_len l
  by_cases hlt : i < l.length
  · obtain ⟨o, hoi⟩ : ∃ o, l[i]? = some o := ⟨_, List.getElem?_eq_getElem hlt⟩
    have hmem := List.mem_of_getElem? hoi
    have hok := ho o hmem
    have hk' := doE_once (cap := capOf n) (o := o) hk
    have hlen' := doE_len (o := o) hlen
    have h8' : (ocl o).length = 8 := rfl
    have hrd := hok.rd (hfew o hmem) (F := [])
    have k0 := hok.k0
    have k1 := hok.k1
    have hdo : FnO Try.prog w0 33 [.pointer (some ⟨g, 0, none⟩), .agg (ocl o).toArray] (cacheE g (capOf n) L :: []) (fun v l' => v = .int .i64 (doN L o) ∧ l' = cacheE g (capOf n) (doE (capOf n) L o) :: []) := Cdo_ok hok (hfew o hmem)
    by_cases hk4 : o.k % 4 = 0
    · have hdo2 : doE (capOf n) L o = putE (capOf n) L (opE o) o.pick := by rw [doE, if_pos hk4]
      by_cases hc : capOf n = 0
      · have hfind : (doE (capOf n) L o).find? (kE o.key) = none := by rw [hdo2, hc]; exact put_find0 (e := opE o) hk
        refine J.seq ?_
        refine J.seq ?_
        refine J.region ?_
        refine JL.pure rfl rfl (OpP.move rfl) ?_
        refine JL.pure rfl rfl (OpP.move rfl) ?_
        refine JL.pure rfl rfl (OpP.len rfl rfl) ?_
        refine JL.decT rfl rfl (OpP.lss rfl rfl) (by omega) ?_
        refine JL.nil ?_
        refine J.condT rfl ?_
        refine J.skip ?_
        refine J.seq ?_
        refine J.block ?_
        refine J.seq ?_
        refine J.region ?_
        refine JL.pure rfl rfl (OpP.move rfl) ?_
        refine JL.pure rfl rfl (OpP.move rfl) ?_
        refine JL.pure rfl rfl (OpP.move rfl) ?_
        obtain ⟨ga, pa, qa, ea, ka, ca⟩ := hr.pos (by omega); cases ea
        refine JL.pure rfl rfl (OpP.indexAddr rfl rfl (by omega) (by omega)) ?_
        refine JL.read rfl rfl (OpR.loadN rfl (by apply Cells.conv (fun _ h => h.none); apply Cells.chunkAt ca; (case' h => assumption); (case' hi => assumption); done) (by first | rfl | assumption)) ?_
        refine JL.step rfl rfl (OpW.call (first := []) (captured := []) inferInstance rfl rfl hdo) ?_; rintro r34 _ ⟨rfl, rfl⟩
        refine JL.nil ?_
        refine J.seq ?_
        refine J.seq ?_
        refine J.region ?_
        refine JL.pure rfl rfl (OpP.move rfl) ?_
        refine JL.step rfl rfl (OpW.call (first := []) (captured := []) inferInstance rfl rfl ELen_ok) ?_; rintro r36 _ ⟨rfl, rfl⟩
        refine JL.pure rfl rfl (OpP.move rfl) ?_
        refine JL.decF rfl rfl (OpP.gtr rfl rfl) (by omega) ?_
        refine JL.nil ?_
        refine J.condF rfl ?_
        refine J.skip ?_
        refine J.seq ?_
        refine J.region ?_
        refine JL.pure rfl rfl (OpP.move rfl) ?_
        refine JL.pure rfl rfl (OpP.move rfl) ?_
        refine JL.pure rfl rfl (OpP.move rfl) ?_
        refine JL.pure rfl rfl (OpP.indexAddr rfl rfl (by omega) (by omega)) ?_
        refine JL.pure rfl rfl (OpP.fieldAddr rfl) ?_
        refine JL.read rfl rfl (OpR.load1 rfl (by apply Cells.cellChunk (j := 1) ca (fun _ h => h.none); (case' h => assumption); (case' hi => assumption); (case' hv => rfl); (case' ho => omega); done)) ?_
        refine JL.step rfl rfl (OpW.call (first := []) (captured := []) inferInstance rfl rfl (EGetN_ok hfind)) ?_; rintro r46 _ ⟨rfl, rfl⟩
        refine JL.pure rfl rfl (OpP.move rfl) ?_
        refine JL.pure rfl rfl (OpP.extract rfl rfl) ?_
        refine JL.pure rfl rfl (OpP.extract rfl rfl) ?_
        refine JL.mem rfl rfl OpM.alloc ?_; rintro _ _ ⟨b8, rfl, rfl⟩
        refine JL.mem0 rfl (by apply OpM.storeN rfl rfl (by rfl) (oneC rfl (oneC rfl (one1 rfl))); (case' hu => exact .head); (case' hs => exact (.here (.here (.here .nil)))); done) ?_; rintro _ _ ⟨rfl, rfl⟩
        refine JL.pure rfl rfl (OpP.assign rfl) ?_
        refine JL.nil ?_
        refine J.seq ?_
        refine J.regionD [4, 15, 20] (by kernel_rfl) ?_
        refine DL.pure (i := 0) (by kernel_rfl) (by kernel_rfl) rfl rfl rfl (OpP.move rfl) ?_
        refine DL.pure (i := 1) (by kernel_rfl) (by kernel_rfl) rfl rfl rfl (OpP.move rfl) ?_
        refine DL.pure (i := 2) (by kernel_rfl) (by kernel_rfl) rfl rfl rfl (OpP.indexAddr rfl rfl (by omega) (by omega)) ?_
        refine DL.pure (i := 3) (by kernel_rfl) (by kernel_rfl) rfl rfl rfl (OpP.fieldAddr rfl) ?_
        refine DL.read (i := 4) (by kernel_rfl) (by kernel_rfl) rfl rfl rfl (fun _ h => h) (OpR.load1 rfl (by apply Cells.cellChunk (j := 0) ca (fun _ h => h.none); (case' h => assumption); (case' hi => assumption); (case' hv => rfl); (case' ho => omega); done)) ?_
        refine DL.pure (i := 5) (by kernel_rfl) (by kernel_rfl) rfl rfl rfl (OpP.remI rfl rfl (by omega) (by omega)) ?_
        refine DL.decT (i := 6) (by kernel_rfl) (by kernel_rfl) rfl rfl rfl (OpP.eql rfl rfl) (by omega) ?_
        refine DL.pure (i := 7) (by kernel_rfl) (by kernel_rfl) rfl rfl rfl (OpP.move rfl) ?_
        refine DL.pure (i := 8) (by kernel_rfl) (by kernel_rfl) rfl rfl rfl (OpP.move rfl) ?_
        refine DL.pure (i := 9) (by kernel_rfl) (by kernel_rfl) rfl rfl rfl (OpP.move rfl) ?_
        refine DL.decF (i := 10) (by kernel_rfl) (by kernel_rfl) rfl rfl rfl (OpP.gtr rfl rfl) (by omega) ?_
        refine DL.decF (i := 11) (by kernel_rfl) (by kernel_rfl) rfl rfl rfl (OpP.neBool rfl rfl) (by decide) ?_
        refine DL.pure (i := 12) (by kernel_rfl) (by kernel_rfl) rfl rfl rfl (OpP.move rfl) ?_
        refine DL.pure (i := 13) (by kernel_rfl) (by kernel_rfl) rfl rfl rfl (OpP.move rfl) ?_
        refine DL.pure (i := 14) (by kernel_rfl) (by kernel_rfl) rfl rfl rfl (OpP.move rfl) ?_
        refine DL.skip (i := 15) (by kernel_rfl) (by kernel_rfl) rfl rfl rfl ?_
        refine DL.skip (i := 16) (by kernel_rfl) (by kernel_rfl) rfl rfl rfl ?_
        refine DL.skip (i := 17) (by kernel_rfl) (by kernel_rfl) rfl rfl rfl ?_
        refine DL.skip (i := 18) (by kernel_rfl) (by kernel_rfl) rfl rfl rfl ?_
        refine DL.skip (i := 19) (by kernel_rfl) (by kernel_rfl) rfl rfl rfl ?_
        refine DL.skip (i := 20) (by kernel_rfl) (by kernel_rfl) rfl rfl rfl ?_
        refine DL.skip (i := 21) (by kernel_rfl) (by kernel_rfl) rfl rfl rfl ?_
        refine DL.skip (i := 22) (by kernel_rfl) (by kernel_rfl) rfl rfl rfl ?_
        refine DL.pure (i := 23) (by kernel_rfl) (by kernel_rfl) rfl rfl rfl (OpP.pickF rfl rfl) ?_
        refine DL.pure (i := 24) (by kernel_rfl) (by kernel_rfl) rfl rfl rfl (OpP.pickF rfl rfl) ?_
        refine DL.pure (i := 25) (by kernel_rfl) (by kernel_rfl) rfl rfl rfl (OpP.pickT rfl rfl) ?_
        refine DL.done (by kernel_rfl) ?_
        refine J.condF rfl ?_
        refine J.skip ?_
        refine J.inBlock ?_
        refine J.region ?_
        refine JL.pure rfl rfl (OpP.move rfl) ?_
        refine JL.pure rfl rfl (OpP.addI rfl rfl (by omega) (by omega)) ?_
        refine JL.pure rfl rfl (OpP.assign rfl) ?_
        refine JL.nil ?_
        refine back (i + 1, _) ⟨by dsimp only; omega, hk', hlen'⟩ (by dsimp only; omega) (by repeat (first | exact SubEnv.nil | refine SubEnv.cons (by first | rfl | exact congrArg (fun z => some (Value.int .i64 z)) (by omega) | (simp; done)) ?_)) (fun _ h => Own.pick (pre := [_, _]) [1] rfl h)
      · have hfind : (doE (capOf n) L o).find? (kE o.key) = some (opE o) := by rw [hdo2]; exact put_find (e := opE o) hk hc
        refine J.seq ?_
        refine J.seq ?_
        refine J.region ?_
        refine JL.pure rfl rfl (OpP.move rfl) ?_
        refine JL.pure rfl rfl (OpP.move rfl) ?_
        refine JL.pure rfl rfl (OpP.len rfl rfl) ?_
        refine JL.decT rfl rfl (OpP.lss rfl rfl) (by omega) ?_
        refine JL.nil ?_
        refine J.condT rfl ?_
        refine J.skip ?_
        refine J.seq ?_
        refine J.block ?_
        refine J.seq ?_
        refine J.region ?_
        refine JL.pure rfl rfl (OpP.move rfl) ?_
        refine JL.pure rfl rfl (OpP.move rfl) ?_
        refine JL.pure rfl rfl (OpP.move rfl) ?_
        obtain ⟨ga, pa, qa, ea, ka, ca⟩ := hr.pos (by omega); cases ea
        refine JL.pure rfl rfl (OpP.indexAddr rfl rfl (by omega) (by omega)) ?_
        refine JL.read rfl rfl (OpR.loadN rfl (by apply Cells.conv (fun _ h => h.none); apply Cells.chunkAt ca; (case' h => assumption); (case' hi => assumption); done) (by first | rfl | assumption)) ?_
        refine JL.step rfl rfl (OpW.call (first := []) (captured := []) inferInstance rfl rfl hdo) ?_; rintro r34 _ ⟨rfl, rfl⟩
        refine JL.nil ?_
        refine J.seq ?_
        refine J.seq ?_
        refine J.region ?_
        refine JL.pure rfl rfl (OpP.move rfl) ?_
        refine JL.step rfl rfl (OpW.call (first := []) (captured := []) inferInstance rfl rfl ELen_ok) ?_; rintro r36 _ ⟨rfl, rfl⟩
        refine JL.pure rfl rfl (OpP.move rfl) ?_
        refine JL.decF rfl rfl (OpP.gtr rfl rfl) (by omega) ?_
        refine JL.nil ?_
        refine J.condF rfl ?_
        refine J.skip ?_
        refine J.seq ?_
        refine J.region ?_
        refine JL.pure rfl rfl (OpP.move rfl) ?_
        refine JL.pure rfl rfl (OpP.move rfl) ?_
        refine JL.pure rfl rfl (OpP.move rfl) ?_
        refine JL.pure rfl rfl (OpP.indexAddr rfl rfl (by omega) (by omega)) ?_
        refine JL.pure rfl rfl (OpP.fieldAddr rfl) ?_
        refine JL.read rfl rfl (OpR.load1 rfl (by apply Cells.cellChunk (j := 1) ca (fun _ h => h.none); (case' h => assumption); (case' hi => assumption); (case' hv => rfl); (case' ho => omega); done)) ?_
        refine JL.step rfl rfl (OpW.call (first := []) (captured := []) inferInstance rfl rfl (EGetS_ok hfind)) ?_; rintro r46 _ ⟨u1, ⟨u2, ⟨h46, ⟨h461, ⟨rfl, rfl⟩⟩⟩⟩⟩
        refine JL.lit .head fun au1 cu1 eu1 => ?_; subst eu1
        refine JL.lit (.tail .head) fun au2 cu2 eu2 => ?_; subst eu2
        refine JL.pure rfl rfl (OpP.move rfl) ?_
        refine JL.pure rfl rfl (OpP.extract rfl rfl) ?_
        refine JL.pure rfl rfl (OpP.extract rfl rfl) ?_
        refine JL.mem rfl rfl OpM.alloc ?_; rintro _ _ ⟨b8, rfl, rfl⟩
        refine JL.mem0 rfl (by apply OpM.storeN rfl rfl (by rfl) (oneC rfl (oneC rfl (one1 rfl))); (case' hu => exact .head); (case' hs => exact (.here (.here (.here .nil)))); done) ?_; rintro _ _ ⟨rfl, rfl⟩
        refine JL.pure rfl rfl (OpP.assign rfl) ?_
        refine JL.nil ?_
        refine J.seq ?_
        refine J.regionD [4, 15, 20] (by kernel_rfl) ?_
        refine DL.pure (i := 0) (by kernel_rfl) (by kernel_rfl) rfl rfl rfl (OpP.move rfl) ?_
        refine DL.pure (i := 1) (by kernel_rfl) (by kernel_rfl) rfl rfl rfl (OpP.move rfl) ?_
        refine DL.pure (i := 2) (by kernel_rfl) (by kernel_rfl) rfl rfl rfl (OpP.indexAddr rfl rfl (by omega) (by omega)) ?_
        refine DL.pure (i := 3) (by kernel_rfl) (by kernel_rfl) rfl rfl rfl (OpP.fieldAddr rfl) ?_
        refine DL.read (i := 4) (by kernel_rfl) (by kernel_rfl) rfl rfl rfl (fun _ h => h) (OpR.load1 rfl (by apply Cells.cellChunk (j := 0) ca (fun _ h => h.none); (case' h => assumption); (case' hi => assumption); (case' hv => rfl); (case' ho => omega); done)) ?_
        refine DL.pure (i := 5) (by kernel_rfl) (by kernel_rfl) rfl rfl rfl (OpP.remI rfl rfl (by omega) (by omega)) ?_
        refine DL.decT (i := 6) (by kernel_rfl) (by kernel_rfl) rfl rfl rfl (OpP.eql rfl rfl) (by omega) ?_
        refine DL.pure (i := 7) (by kernel_rfl) (by kernel_rfl) rfl rfl rfl (OpP.move rfl) ?_
        refine DL.pure (i := 8) (by kernel_rfl) (by kernel_rfl) rfl rfl rfl (OpP.move rfl) ?_
        refine DL.pure (i := 9) (by kernel_rfl) (by kernel_rfl) rfl rfl rfl (OpP.move rfl) ?_
        refine DL.decT (i := 10) (by kernel_rfl) (by kernel_rfl) rfl rfl rfl (OpP.gtr rfl rfl) (by omega) ?_
        refine DL.decF (i := 11) (by kernel_rfl) (by kernel_rfl) rfl rfl rfl (OpP.neBool rfl rfl) (by decide) ?_
        refine DL.pure (i := 12) (by kernel_rfl) (by kernel_rfl) rfl rfl rfl (OpP.move rfl) ?_
        refine DL.pure (i := 13) (by kernel_rfl) (by kernel_rfl) rfl rfl rfl (OpP.move rfl) ?_
        refine DL.pure (i := 14) (by kernel_rfl) (by kernel_rfl) rfl rfl rfl (OpP.move rfl) ?_
        refine DL.read (i := 15) (by kernel_rfl) (by kernel_rfl) rfl rfl rfl (fun _ h => h) (OpR.loadN rfl (Cells.full .head) rfl) ?_
        refine DL.pure (i := 16) (by kernel_rfl) (by kernel_rfl) rfl rfl rfl (OpP.move rfl) ?_
        refine DL.pure (i := 17) (by kernel_rfl) (by kernel_rfl) rfl rfl rfl (OpP.move rfl) ?_
        refine DL.pure (i := 18) (by kernel_rfl) (by kernel_rfl) rfl rfl rfl (OpP.indexAddr rfl rfl (by omega) (by omega)) ?_
        refine DL.pure (i := 19) (by kernel_rfl) (by kernel_rfl) rfl rfl rfl (OpP.fieldAddr rfl) ?_
        refine DL.read (i := 20) (by kernel_rfl) (by kernel_rfl) rfl rfl rfl (fun _ h => h) (OpR.loadN rfl (by apply Cells.chunkSub (j := 4) (m := 3) ca (fun _ h => h.none); (case' h => assumption); (case' hi => assumption); (case' hv => rfl); (case' ho => omega); done) (by rfl)) ?_
        refine DL.only (i := 21) (by kernel_rfl) ?_
        refine DL1.stepF rfl rfl rfl (by kernel_rfl) (by exact OpW.call (first := []) (captured := []) inferInstance rfl rfl (Same_ok (d := ⟨o.d.an, .slice au1 o.d.dl.length cu1, .slice au2 o.d.al.length cu2, o.d.dl, o.d.al⟩) (e := o.d) ⟨RdO.own (.tail .head), RdO.own (.tail (.tail .head)), h46, h461⟩ (hok.rd (hfew o hmem)))) ?_; rintro r70 _ ⟨rfl, rfl⟩
        refine DL.pure (i := 22) (by kernel_rfl) (by kernel_rfl) rfl rfl rfl (OpP.notB rfl) ?_
        refine DL.pure (i := 23) (by kernel_rfl) (by kernel_rfl) rfl rfl rfl (OpP.pickT rfl rfl) ?_
        refine DL.pure (i := 24) (by kernel_rfl) (by kernel_rfl) rfl rfl rfl (OpP.pickF rfl rfl) ?_
        refine DL.pure (i := 25) (by kernel_rfl) (by kernel_rfl) rfl rfl rfl (OpP.pickT rfl rfl) ?_
        refine DL.done (by kernel_rfl) ?_
        refine J.splitAt 74 rfl (fun h74 => ?_) (fun h74 => ?_)
        focus
          refine J.condT rfl ?_
          refine J.seq ?_
          refine J.region ?_
          refine JL.pure rfl rfl (OpP.assign rfl) ?_
          refine JL.nil ?_
          refine J.ret1 rfl rfl ?_
        rotate_left 1
        focus
          refine J.condF rfl ?_
          refine J.skip ?_
          refine J.inBlock ?_
          refine J.region ?_
          refine JL.pure rfl rfl (OpP.move rfl) ?_
          refine JL.pure rfl rfl (OpP.addI rfl rfl (by omega) (by omega)) ?_
          refine JL.pure rfl rfl (OpP.assign rfl) ?_
          refine JL.nil ?_
        rotate_left 1
        · simp [sameD] at h74
        · refine back (i + 1, _) ⟨by dsimp only; omega, hk', hlen'⟩ (by dsimp only; omega) (by repeat (first | exact SubEnv.nil | refine SubEnv.cons (by first | rfl | exact congrArg (fun z => some (Value.int .i64 z)) (by omega) | (simp; done)) ?_)) (fun _ h => Own.pick (pre := [_, _, _, _]) [3] rfl h)
    · refine J.seq ?_
      refine J.seq ?_
      refine J.region ?_
      refine JL.pure rfl rfl (OpP.move rfl) ?_
      refine JL.pure rfl rfl (OpP.move rfl) ?_
      refine JL.pure rfl rfl (OpP.len rfl rfl) ?_
      refine JL.decT rfl rfl (OpP.lss rfl rfl) (by omega) ?_
      refine JL.nil ?_
      refine J.condT rfl ?_
      refine J.skip ?_
      refine J.seq ?_
      refine J.block ?_
      refine J.seq ?_
      refine J.region ?_
      refine JL.pure rfl rfl (OpP.move rfl) ?_
      refine JL.pure rfl rfl (OpP.move rfl) ?_
      refine JL.pure rfl rfl (OpP.move rfl) ?_
      obtain ⟨ga, pa, qa, ea, ka, ca⟩ := hr.pos (by omega); cases ea
      refine JL.pure rfl rfl (OpP.indexAddr rfl rfl (by omega) (by omega)) ?_
      refine JL.read rfl rfl (OpR.loadN rfl (by apply Cells.conv (fun _ h => h.none); apply Cells.chunkAt ca; (case' h => assumption); (case' hi => assumption); done) (by first | rfl | assumption)) ?_
      refine JL.step rfl rfl (OpW.call (first := []) (captured := []) inferInstance rfl rfl hdo) ?_; rintro r34 _ ⟨rfl, rfl⟩
      refine JL.nil ?_
      refine J.seq ?_
      refine J.seq ?_
      refine J.region ?_
      refine JL.pure rfl rfl (OpP.move rfl) ?_
      refine JL.step rfl rfl (OpW.call (first := []) (captured := []) inferInstance rfl rfl ELen_ok) ?_; rintro r36 _ ⟨rfl, rfl⟩
      refine JL.pure rfl rfl (OpP.move rfl) ?_
      refine JL.decF rfl rfl (OpP.gtr rfl rfl) (by omega) ?_
      refine JL.nil ?_
      refine J.condF rfl ?_
      refine J.skip ?_
      refine J.seq ?_
      refine J.region ?_
      refine JL.pure rfl rfl (OpP.move rfl) ?_
      refine JL.pure rfl rfl (OpP.move rfl) ?_
      refine JL.pure rfl rfl (OpP.move rfl) ?_
      refine JL.pure rfl rfl (OpP.indexAddr rfl rfl (by omega) (by omega)) ?_
      refine JL.pure rfl rfl (OpP.fieldAddr rfl) ?_
      refine JL.read rfl rfl (OpR.load1 rfl (by apply Cells.cellChunk (j := 1) ca (fun _ h => h.none); (case' h => assumption); (case' hi => assumption); (case' hv => rfl); (case' ho => omega); done)) ?_
      refine JL.step rfl rfl (OpW.call (first := []) (captured := []) inferInstance rfl rfl EGet_ok) ?_; rintro r46 _ (⟨h46, ⟨rfl, rfl⟩⟩ | ⟨e, ⟨u1, ⟨u2, ⟨h461, ⟨h462, ⟨h463, ⟨rfl, rfl⟩⟩⟩⟩⟩⟩⟩)
      focus
        refine JL.pure rfl rfl (OpP.move rfl) ?_
        refine JL.pure rfl rfl (OpP.extract rfl rfl) ?_
        refine JL.pure rfl rfl (OpP.extract rfl rfl) ?_
        refine JL.mem rfl rfl OpM.alloc ?_; rintro _ _ ⟨b8, rfl, rfl⟩
        refine JL.mem0 rfl (by apply OpM.storeN rfl rfl (by rfl) (oneC rfl (oneC rfl (one1 rfl))); (case' hu => exact .head); (case' hs => exact (.here (.here (.here .nil)))); done) ?_; rintro _ _ ⟨rfl, rfl⟩
        refine JL.pure rfl rfl (OpP.assign rfl) ?_
        refine JL.nil ?_
        refine J.seq ?_
        refine J.regionD [4, 15, 20] (by kernel_rfl) ?_
        refine DL.pure (i := 0) (by kernel_rfl) (by kernel_rfl) rfl rfl rfl (OpP.move rfl) ?_
        refine DL.pure (i := 1) (by kernel_rfl) (by kernel_rfl) rfl rfl rfl (OpP.move rfl) ?_
        refine DL.pure (i := 2) (by kernel_rfl) (by kernel_rfl) rfl rfl rfl (OpP.indexAddr rfl rfl (by omega) (by omega)) ?_
        refine DL.pure (i := 3) (by kernel_rfl) (by kernel_rfl) rfl rfl rfl (OpP.fieldAddr rfl) ?_
        refine DL.read (i := 4) (by kernel_rfl) (by kernel_rfl) rfl rfl rfl (fun _ h => h) (OpR.load1 rfl (by apply Cells.cellChunk (j := 0) ca (fun _ h => h.none); (case' h => assumption); (case' hi => assumption); (case' hv => rfl); (case' ho => omega); done)) ?_
        refine DL.pure (i := 5) (by kernel_rfl) (by kernel_rfl) rfl rfl rfl (OpP.remI rfl rfl (by omega) (by omega)) ?_
        refine DL.decF (i := 6) (by kernel_rfl) (by kernel_rfl) rfl rfl rfl (OpP.eql rfl rfl) (by omega) ?_
        refine DL.pure (i := 7) (by kernel_rfl) (by kernel_rfl) rfl rfl rfl (OpP.move rfl) ?_
        refine DL.skip (i := 8) (by kernel_rfl) (by kernel_rfl) rfl rfl rfl ?_
        refine DL.skip (i := 9) (by kernel_rfl) (by kernel_rfl) rfl rfl rfl ?_
        refine DL.skip (i := 10) (by kernel_rfl) (by kernel_rfl) rfl rfl rfl ?_
        refine DL.skip (i := 11) (by kernel_rfl) (by kernel_rfl) rfl rfl rfl ?_
        refine DL.skip (i := 12) (by kernel_rfl) (by kernel_rfl) rfl rfl rfl ?_
        refine DL.skip (i := 13) (by kernel_rfl) (by kernel_rfl) rfl rfl rfl ?_
        refine DL.skip (i := 14) (by kernel_rfl) (by kernel_rfl) rfl rfl rfl ?_
        refine DL.skip (i := 15) (by kernel_rfl) (by kernel_rfl) rfl rfl rfl ?_
        refine DL.skip (i := 16) (by kernel_rfl) (by kernel_rfl) rfl rfl rfl ?_
        refine DL.skip (i := 17) (by kernel_rfl) (by kernel_rfl) rfl rfl rfl ?_
        refine DL.skip (i := 18) (by kernel_rfl) (by kernel_rfl) rfl rfl rfl ?_
        refine DL.skip (i := 19) (by kernel_rfl) (by kernel_rfl) rfl rfl rfl ?_
        refine DL.skip (i := 20) (by kernel_rfl) (by kernel_rfl) rfl rfl rfl ?_
        refine DL.skip (i := 21) (by kernel_rfl) (by kernel_rfl) rfl rfl rfl ?_
        refine DL.skip (i := 22) (by kernel_rfl) (by kernel_rfl) rfl rfl rfl ?_
        refine DL.skip (i := 23) (by kernel_rfl) (by kernel_rfl) rfl rfl rfl ?_
        refine DL.skip (i := 24) (by kernel_rfl) (by kernel_rfl) rfl rfl rfl ?_
        refine DL.pure (i := 25) (by kernel_rfl) (by kernel_rfl) rfl rfl rfl (OpP.pickF rfl rfl) ?_
        refine DL.done (by kernel_rfl) ?_
        refine J.condF rfl ?_
        refine J.skip ?_
        refine J.inBlock ?_
        refine J.region ?_
        refine JL.pure rfl rfl (OpP.move rfl) ?_
        refine JL.pure rfl rfl (OpP.addI rfl rfl (by omega) (by omega)) ?_
        refine JL.pure rfl rfl (OpP.assign rfl) ?_
        refine JL.nil ?_
      rotate_left 1
      focus
        refine JL.lit .head fun au1 cu1 eu1 => ?_; subst eu1
        refine JL.lit (.tail .head) fun au2 cu2 eu2 => ?_; subst eu2
        refine JL.pure rfl rfl (OpP.move rfl) ?_
        refine JL.pure rfl rfl (OpP.extract rfl rfl) ?_
        refine JL.pure rfl rfl (OpP.extract rfl rfl) ?_
        refine JL.mem rfl rfl OpM.alloc ?_; rintro _ _ ⟨b8, rfl, rfl⟩
        refine JL.mem0 rfl (by apply OpM.storeN rfl rfl (by rfl) (oneC rfl (oneC rfl (one1 rfl))); (case' hu => exact .head); (case' hs => exact (.here (.here (.here .nil)))); done) ?_; rintro _ _ ⟨rfl, rfl⟩
        refine JL.pure rfl rfl (OpP.assign rfl) ?_
        refine JL.nil ?_
        refine J.seq ?_
        refine J.regionD [4, 15, 20] (by kernel_rfl) ?_
        refine DL.pure (i := 0) (by kernel_rfl) (by kernel_rfl) rfl rfl rfl (OpP.move rfl) ?_
        refine DL.pure (i := 1) (by kernel_rfl) (by kernel_rfl) rfl rfl rfl (OpP.move rfl) ?_
        refine DL.pure (i := 2) (by kernel_rfl) (by kernel_rfl) rfl rfl rfl (OpP.indexAddr rfl rfl (by omega) (by omega)) ?_
        refine DL.pure (i := 3) (by kernel_rfl) (by kernel_rfl) rfl rfl rfl (OpP.fieldAddr rfl) ?_
        refine DL.read (i := 4) (by kernel_rfl) (by kernel_rfl) rfl rfl rfl (fun _ h => h) (OpR.load1 rfl (by apply Cells.cellChunk (j := 0) ca (fun _ h => h.none); (case' h => assumption); (case' hi => assumption); (case' hv => rfl); (case' ho => omega); done)) ?_
        refine DL.pure (i := 5) (by kernel_rfl) (by kernel_rfl) rfl rfl rfl (OpP.remI rfl rfl (by omega) (by omega)) ?_
        refine DL.decF (i := 6) (by kernel_rfl) (by kernel_rfl) rfl rfl rfl (OpP.eql rfl rfl) (by omega) ?_
        refine DL.pure (i := 7) (by kernel_rfl) (by kernel_rfl) rfl rfl rfl (OpP.move rfl) ?_
        refine DL.skip (i := 8) (by kernel_rfl) (by kernel_rfl) rfl rfl rfl ?_
        refine DL.skip (i := 9) (by kernel_rfl) (by kernel_rfl) rfl rfl rfl ?_
        refine DL.skip (i := 10) (by kernel_rfl) (by kernel_rfl) rfl rfl rfl ?_
        refine DL.skip (i := 11) (by kernel_rfl) (by kernel_rfl) rfl rfl rfl ?_
        refine DL.skip (i := 12) (by kernel_rfl) (by kernel_rfl) rfl rfl rfl ?_
        refine DL.skip (i := 13) (by kernel_rfl) (by kernel_rfl) rfl rfl rfl ?_
        refine DL.skip (i := 14) (by kernel_rfl) (by kernel_rfl) rfl rfl rfl ?_
        refine DL.skip (i := 15) (by kernel_rfl) (by kernel_rfl) rfl rfl rfl ?_
        refine DL.skip (i := 16) (by kernel_rfl) (by kernel_rfl) rfl rfl rfl ?_
        refine DL.skip (i := 17) (by kernel_rfl) (by kernel_rfl) rfl rfl rfl ?_
        refine DL.skip (i := 18) (by kernel_rfl) (by kernel_rfl) rfl rfl rfl ?_
        refine DL.skip (i := 19) (by kernel_rfl) (by kernel_rfl) rfl rfl rfl ?_
        refine DL.skip (i := 20) (by kernel_rfl) (by kernel_rfl) rfl rfl rfl ?_
        refine DL.skip (i := 21) (by kernel_rfl) (by kernel_rfl) rfl rfl rfl ?_
        refine DL.skip (i := 22) (by kernel_rfl) (by kernel_rfl) rfl rfl rfl ?_
        refine DL.skip (i := 23) (by kernel_rfl) (by kernel_rfl) rfl rfl rfl ?_
        refine DL.skip (i := 24) (by kernel_rfl) (by kernel_rfl) rfl rfl rfl ?_
        refine DL.pure (i := 25) (by kernel_rfl) (by kernel_rfl) rfl rfl rfl (OpP.pickF rfl rfl) ?_
        refine DL.done (by kernel_rfl) ?_
        refine J.condF rfl ?_
        refine J.skip ?_
        refine J.inBlock ?_
        refine J.region ?_
        refine JL.pure rfl rfl (OpP.move rfl) ?_
        refine JL.pure rfl rfl (OpP.addI rfl rfl (by omega) (by omega)) ?_
        refine JL.pure rfl rfl (OpP.assign rfl) ?_
        refine JL.nil ?_
      rotate_left 1
      · refine back (i + 1, _) ⟨by dsimp only; omega, hk', hlen'⟩ (by dsimp only; omega) (by repeat (first | exact SubEnv.nil | refine SubEnv.cons (by first | rfl | exact congrArg (fun z => some (Value.int .i64 z)) (by omega) | (simp; done)) ?_)) (fun _ h => Own.pick (pre := [_, _]) [1] rfl h)
      · refine back (i + 1, _) ⟨by dsimp only; omega, hk', hlen'⟩ (by dsimp only; omega) (by repeat (first | exact SubEnv.nil | refine SubEnv.cons (by first | rfl | exact congrArg (fun z => some (Value.int .i64 z)) (by omega) | (simp; done)) ?_)) (fun _ h => Own.pick (pre := [_, _, _, _]) [3] rfl h)
  · refine J.seq ?_
    refine J.seq ?_
    refine J.region ?_
    refine JL.pure rfl rfl (OpP.move rfl) ?_
    refine JL.pure rfl rfl (OpP.move rfl) ?_
    refine JL.pure rfl rfl (OpP.len rfl rfl) ?_
    refine JL.decF rfl rfl (OpP.lss rfl rfl) (by omega) ?_
    refine JL.nil ?_
    refine J.condF rfl ?_
    refine J.exit rfl ?_
    refine J.seq ?_
    refine J.region ?_
    refine JL.pure rfl rfl (OpP.assign rfl) ?_
    refine JL.nil ?_
    refine J.ret1 rfl rfl ?_
    rfl
end Go.Proofs.A
