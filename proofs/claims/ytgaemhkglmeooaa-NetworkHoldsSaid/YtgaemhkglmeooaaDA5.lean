/- A text of the proof of a statement about the given program: its part DA5. No person has read it. -/
import Derived.Test.YtgaemhkglmeooaaDA4
import Derived.Test.YtgaemhkglmeooaaDJ2
-- seat d
namespace Go.Proofs.D
open Go Go.Gp Go.RowKit

theorem ecells_app (a b : List Nat) : ecells (a ++ b) = ecells a ++ ecells b := List.map_append
theorem sameE_t {w0 : World} {F : List HProp} {e f : Ex} (he : Tr w0 e) (hf : Tr w0 f) (h : enf e = enf f) : FnO Try.prog w0 18 [.agg (xcl e).toArray, .agg (xcl f).toArray] F (fun r l' => r = .bool true ∧ l' = F) :=
  (sameExpr_ok he hf).mono fun r l' ⟨b, h1, h2, h3⟩ => ⟨by rw [h1, h3.2 h], h2⟩
theorem sameE_f {w0 : World} {F : List HProp} {e f : Ex} (he : Tr w0 e) (hf : Tr w0 f) (h : enf e ≠ enf f) : FnO Try.prog w0 18 [.agg (xcl e).toArray, .agg (xcl f).toArray] F (fun r l' => r = .bool false ∧ l' = F) :=
  (sameExpr_ok he hf).mono fun r l' ⟨b, h1, h2, h3⟩ => ⟨by rw [h1]; cases b with | false => rfl | true => exact absurd (h3.1 rfl) h, h2⟩
set_option maxHeartbeats 4000000 in
theorem NetworkHolds_ok {w0 : World} {d : Dc} {z : Int} (h : DcOk w0 d) (hfn : d.fn ≤ maxLen) (hz : 0 ≤ z ∧ z ≤ 255) : FnO Try.prog w0 6 [.agg (dcl d).toArray, .int .u8 z] [] (fun v _ => v = .bool true) := by
  have fd := fun (G : List HProp) => fewDoc_ok (F := G) h hfn
  refine FnO.intro (n := 204) Try.func6 rfl rfl rfl ?_
  refine J.seq ?_
  refine J.region ?_
  refine JL.mem rfl rfl (OpM.box rfl rfl) ?_; rintro _ _ ⟨b2, rfl, rfl⟩
  refine JL.pure rfl rfl (OpP.assign rfl) ?_
  refine JL.nil ?_
  refine J.seq ?_
  refine J.seq ?_
  refine J.region ?_
  refine JL.step rfl rfl (OpW.call (first := []) (captured := []) inferInstance rfl rfl awake_ok) ?_; rintro r16 _ ⟨rfl, rfl⟩
  refine JL.pure rfl rfl (OpP.notB rfl) ?_
  refine JL.pure rfl rfl (OpP.move rfl) ?_
  refine JL.read rfl rfl (OpR.loadN rfl (Cells.full .head) rfl) ?_
  refine JL.step rfl rfl (OpW.call (first := []) (captured := []) inferInstance rfl rfl (fd _)) ?_; rintro r20 _ ⟨b, ⟨rfl, ⟨rfl, h20⟩⟩⟩
  refine JL.pure rfl rfl (OpP.notB rfl) ?_
  refine JL.pure rfl rfl (OpP.pickF rfl rfl) ?_
  refine JL.nil ?_
  refine J.splitAt 22 rfl (fun h22 => ?_) (fun h22 => ?_)
  focus
    refine J.condT rfl ?_
    refine J.seq ?_
    refine J.region ?_
    refine JL.step rfl rfl (OpW.call (first := []) (captured := []) inferInstance rfl rfl awake_ok) ?_; rintro r23 _ ⟨rfl, rfl⟩
    refine JL.pure rfl rfl (OpP.assign rfl) ?_
    refine JL.nil ?_
    refine J.ret1 rfl rfl ?_
  rotate_left 1
  focus
    refine J.condF rfl ?_
    refine J.skip ?_
  rotate_left 1
  · rfl
  have ht : DcT w0 d := h20 (by simpa using h22)
  have hl1 := (netN_ok ht).l1
  have htr := (netN_ok ht).t
  have hends := netN_ends ht
  have hrests := netN_rest ht
  have hpl := fun ps hps => plen (ps := ps) ht hps
  have c1 := fun (G : List HProp) => compile_ok (F := G) ht
  have hal := fun (G : List HProp) (i k : Nat) (p : Po) (r : Ru) (hi : d.ps[i]? = some p) (hk : p.rs[k]? = some r) => all_ok (F := G) ht hi hk
  have hn6 := ht.n
  have hdr := ht.hr
  have hpo := ht.po
  refine J.seq ?_
  refine J.region ?_
  refine JL.read rfl rfl (OpR.loadN rfl (Cells.full .head) rfl) ?_
  refine JL.step rfl rfl (OpW.call (first := []) (captured := []) inferInstance rfl rfl (c1 _)) ?_; rintro r25 _ ⟨a, ⟨c, ⟨pa, ⟨pc, ⟨ps, ⟨h25, ⟨rfl, rfl⟩⟩⟩⟩⟩⟩⟩
  refine JL.mem rfl rfl OpM.alloc ?_; rintro _ _ ⟨b5, rfl, rfl⟩
  refine JL.mem0 rfl (by apply OpM.storeN rfl rfl (by rfl) (oneC rfl (one1 rfl)); (case' hu => exact .head); (case' hs => exact (.here (.here .nil))); done) ?_; rintro _ _ ⟨rfl, rfl⟩
  refine JL.nil ?_
  refine J.seq ?_
  refine J.seq ?_
  refine J.region ?_
  refine JL.pure rfl rfl (OpP.fieldAddr rfl) ?_
  refine JL.read rfl rfl (OpR.load1 rfl (Cell.row .head rfl)) ?_
  refine JL.pure rfl rfl (OpP.len rfl rfl) ?_
  refine JL.dec rfl rfl (OpP.eql rfl rfl) (fun h29 => ?_) (fun h29 => ?_)
  focus
    refine JL.nil ?_
    refine J.condT rfl ?_
    refine J.seq ?_
    refine J.region ?_
    refine JL.pure rfl rfl (OpP.assign rfl) ?_
    refine JL.nil ?_
    refine J.ret1 rfl rfl ?_
  rotate_left 1
  focus
    refine JL.nil ?_
    refine J.condF rfl ?_
    refine J.skip ?_
  rotate_left 1
  · rfl
  have hps : ps.map Pr.pure = (netN d).2 := by assumption
  have hpos : 0 < ps.length := by omega
  obtain ⟨j, hj, hjl⟩ : ∃ j : Nat, z % (ps.length : Int) = j ∧ j < ps.length := by
    have h1 := Int.emod_nonneg z (show (ps.length : Int) ≠ 0 by omega)
    have h2 := Int.emod_lt_of_pos z (show (0 : Int) < ps.length by omega)
    exact ⟨(z % ps.length).toNat, by omega, by omega⟩
  obtain ⟨q, hqj⟩ : ∃ q, ps[j]? = some q := ⟨_, List.getElem?_eq_getElem hjl⟩
  have hqm : q.pure ∈ (netN d).2 := by rw [← hps]; exact List.mem_map_of_mem (List.mem_of_getElem? hqj)
  obtain ⟨p, r, f, TS, m, e1, e2, e3, e4, e5, e6, e7⟩ := (hends _ hqm).go
  obtain ⟨hq1, hq2⟩ := hrests _ hqm
  dsimp only [Pr.pure] at e1 e2 e3 e7 hq1 hq2
  have hpo2 := hpo p (List.mem_of_getElem? e1)
  have hwant := all_tr hpo2.e (hpo2.ru r (List.mem_of_getElem? e2))
  have hal2 := fun G => hal G q.i q.k p r e1 e2
  have hpl2 := hpl ps hps
  have hlen : ∀ p ∈ d.ps, (pcl p).length = 13 := fun _ _ => rfl
  have hlen2 : ∀ p ∈ ps, (prcl p).length = 4 := fun _ _ => rfl
  have hi1 := (List.getElem?_eq_some_iff.1 e1).1
  have hk1 := (List.getElem?_eq_some_iff.1 e2).1
  clear hends hrests hpl hps hqm hal hpo ht c1 fd
  generalize (netN d).1 = ns at *
  have hlen3 : ∀ p ∈ ns, (ncl p).length = 11 := fun _ _ => rfl
  have hf := e5.lt.1
  generalize all p r = want at *
  obtain ⟨fa, fn, fc, use, dps, da, dc⟩ := d
  dsimp only [dcl] at *
  refine J.rd (hdr _) fun hr1 => ?_
  obtain ⟨ga, oa, xa, ea, ka, hcs⟩ := hr1.pos (by omega)
  cases ea
  refine J.ownSome (.tail .head) (by omega) fun gn on en kn => ?_
  subst en
  refine J.ownSome (.tail (.tail .head)) (by omega) fun gp op ep kp => ?_
  subst ep
  refine J.seq ?_
  refine J.regionD [1, 5, 9] (by kernel_rfl) ?_
  refine DL.pure (i := 0) (by kernel_rfl) (by kernel_rfl) rfl rfl rfl (OpP.fieldAddr rfl) ?_
  refine DL.read (i := 1) (by kernel_rfl) (by kernel_rfl) rfl rfl rfl (fun _ h => h) (OpR.load1 rfl (Cell.row .head rfl)) ?_
  refine DL.pure (i := 2) (by kernel_rfl) (by kernel_rfl) rfl rfl rfl (OpP.move rfl) ?_
  refine DL.pure (i := 3) (by kernel_rfl) (by kernel_rfl) rfl rfl rfl (OpP.convI64 rfl (by omega) (by omega)) ?_
  refine DL.pure (i := 4) (by kernel_rfl) (by kernel_rfl) rfl rfl rfl (OpP.fieldAddr rfl) ?_
  refine DL.read (i := 5) (by kernel_rfl) (by kernel_rfl) rfl rfl rfl (fun _ h => h) (OpR.load1 rfl (Cell.row .head rfl)) ?_
  refine DL.pure (i := 6) (by kernel_rfl) (by kernel_rfl) rfl rfl rfl (OpP.len rfl rfl) ?_
  refine DL.pure (i := 7) (by kernel_rfl) (by kernel_rfl) rfl rfl rfl (OpP.remI rfl rfl (by first | omega | exact Int.natCast_nonneg _) (by omega)) ?_
  refine DL.pure (i := 8) (by kernel_rfl) (by kernel_rfl) rfl rfl rfl (OpP.indexAddr rfl rfl (by omega) (by omega)) ?_
  refine DL.read (i := 9) (by kernel_rfl) (by kernel_rfl) rfl rfl rfl (fun _ h => h) (OpR.loadN rfl (by apply Cells.chunkSub (j := 0) (m := 4) (Cells.own (.tail (.tail .head))) (fun _ h => h); (case' h => assumption); (case' hi => assumption); (case' hv => rfl); (case' ho => omega); done) (by rfl)) ?_
  refine DL.only (i := 10) (by kernel_rfl) ?_
  refine DL1.stepK rfl rfl rfl (OpM.w OpM.alloc) (by rintro _ _ ⟨b6, rfl, rfl⟩ _ h; exact Own.pick (pre := [_, _, _, _, _, _]) [1, 2, 3, 4, 5] rfl h) ?_; rintro _ _ ⟨b6, rfl, rfl⟩
  refine DL.only (i := 11) (by kernel_rfl) ?_
  refine DL1.stepF0 rfl rfl (by kernel_rfl) (OpM.w (by apply OpM.storeN rfl rfl (by rfl) (oneC rfl (oneC rfl (oneC rfl (one1 rfl)))); (case' hu => exact .head); (case' hs => exact (.here (.here (.here (.here .nil))))); done)) ?_; rintro _ _ ⟨rfl, rfl⟩
  refine DL.done (by kernel_rfl) ?_
  refine J.seq ?_
  rw [e3]
  refine J.seq ?_
  refine J.regionD [1, 5, 7, 13, 18, 20, 22, 25, 31, 36, 38] (by kernel_rfl) ?_
  refine DL.pure (i := 0) (by kernel_rfl) (by kernel_rfl) rfl rfl rfl (OpP.fieldAddr rfl) ?_
  refine DL.read (i := 1) (by kernel_rfl) (by kernel_rfl) rfl rfl rfl (fun _ h => h) (OpR.load1 rfl (Cell.row .head rfl)) ?_
  refine DL.decF (i := 2) (by kernel_rfl) (by kernel_rfl) rfl rfl rfl (OpP.lss rfl rfl) (by omega) ?_
  refine DL.pure (i := 3) (by kernel_rfl) (by kernel_rfl) rfl rfl rfl (OpP.move rfl) ?_
  refine DL.pure (i := 4) (by kernel_rfl) (by kernel_rfl) rfl rfl rfl (OpP.fieldAddr rfl) ?_
  refine DL.read (i := 5) (by kernel_rfl) (by kernel_rfl) rfl rfl rfl (fun _ h => h) (OpR.load1 rfl (Cell.row .head rfl)) ?_
  refine DL.pure (i := 6) (by kernel_rfl) (by kernel_rfl) rfl rfl rfl (OpP.fieldAddr rfl) ?_
  refine DL.read (i := 7) (by kernel_rfl) (by kernel_rfl) rfl rfl rfl (fun _ h => h) (OpR.load1 rfl (Cell.row (.tail (.tail (.tail (.tail (.tail .head))))) rfl)) ?_
  refine DL.pure (i := 8) (by kernel_rfl) (by kernel_rfl) rfl rfl rfl (OpP.len rfl rfl) ?_
  refine DL.decF (i := 9) (by kernel_rfl) (by kernel_rfl) rfl rfl rfl (OpP.geq rfl rfl) (by omega) ?_
  refine DL.pure (i := 10) (by kernel_rfl) (by kernel_rfl) rfl rfl rfl (OpP.pickF rfl rfl) ?_
  refine DL.pure (i := 11) (by kernel_rfl) (by kernel_rfl) rfl rfl rfl (OpP.move rfl) ?_
  refine DL.pure (i := 12) (by kernel_rfl) (by kernel_rfl) rfl rfl rfl (OpP.fieldAddr rfl) ?_
  refine DL.read (i := 13) (by kernel_rfl) (by kernel_rfl) rfl rfl rfl (fun _ h => h) (OpR.load1 rfl (Cell.row .head rfl)) ?_
  refine DL.decF (i := 14) (by kernel_rfl) (by kernel_rfl) rfl rfl rfl (OpP.lss rfl rfl) (by omega) ?_
  refine DL.pure (i := 15) (by kernel_rfl) (by kernel_rfl) rfl rfl rfl (OpP.pickF rfl rfl) ?_
  refine DL.pure (i := 16) (by kernel_rfl) (by kernel_rfl) rfl rfl rfl (OpP.move rfl) ?_
  refine DL.pure (i := 17) (by kernel_rfl) (by kernel_rfl) rfl rfl rfl (OpP.fieldAddr rfl) ?_
  refine DL.read (i := 18) (by kernel_rfl) (by kernel_rfl) rfl rfl rfl (fun _ h => h) (OpR.load1 rfl (Cell.row .head rfl)) ?_
  refine DL.pure (i := 19) (by kernel_rfl) (by kernel_rfl) rfl rfl rfl (OpP.fieldAddr rfl) ?_
  refine DL.read (i := 20) (by kernel_rfl) (by kernel_rfl) rfl rfl rfl (fun _ h => h) (OpR.load1 rfl (Cell.row (.tail (.tail (.tail (.tail (.tail .head))))) rfl)) ?_
  refine DL.pure (i := 21) (by kernel_rfl) (by kernel_rfl) rfl rfl rfl (OpP.fieldAddr rfl) ?_
  refine DL.read (i := 22) (by kernel_rfl) (by kernel_rfl) rfl rfl rfl (fun _ h => h) (OpR.load1 rfl (Cell.row .head rfl)) ?_
  refine DL.pure (i := 23) (by kernel_rfl) (by kernel_rfl) rfl rfl rfl (OpP.indexAddr rfl rfl (by omega) (by omega)) ?_
  refine DL.pure (i := 24) (by kernel_rfl) (by kernel_rfl) rfl rfl rfl (OpP.fieldAddr rfl) ?_
  refine DL.read (i := 25) (by kernel_rfl) (by kernel_rfl) rfl rfl rfl (fun _ h => h) (OpR.load1 rfl (by apply Cells.cellChunk (j := 12) hcs (fun _ h => Own.pick (pre := [_, _, _, _, _, _]) [1, 2, 3, 4, 5] rfl h); (case' h => assumption); (case' hi => assumption); (case' hv => rfl); (case' ho => omega); done)) ?_
  refine DL.pure (i := 26) (by kernel_rfl) (by kernel_rfl) rfl rfl rfl (OpP.len rfl rfl) ?_
  refine DL.decF (i := 27) (by kernel_rfl) (by kernel_rfl) rfl rfl rfl (OpP.geq rfl rfl) (by omega) ?_
  refine DL.pure (i := 28) (by kernel_rfl) (by kernel_rfl) rfl rfl rfl (OpP.pickF rfl rfl) ?_
  refine DL.pure (i := 29) (by kernel_rfl) (by kernel_rfl) rfl rfl rfl (OpP.move rfl) ?_
  refine DL.pure (i := 30) (by kernel_rfl) (by kernel_rfl) rfl rfl rfl (OpP.fieldAddr rfl) ?_
  refine DL.read (i := 31) (by kernel_rfl) (by kernel_rfl) rfl rfl rfl (fun _ h => h) (OpR.load1 rfl (Cell.row .head rfl)) ?_
  refine DL.decF (i := 32) (by kernel_rfl) (by kernel_rfl) rfl rfl rfl (OpP.lss rfl rfl) (by omega) ?_
  refine DL.pure (i := 33) (by kernel_rfl) (by kernel_rfl) rfl rfl rfl (OpP.pickF rfl rfl) ?_
  refine DL.pure (i := 34) (by kernel_rfl) (by kernel_rfl) rfl rfl rfl (OpP.move rfl) ?_
  refine DL.pure (i := 35) (by kernel_rfl) (by kernel_rfl) rfl rfl rfl (OpP.fieldAddr rfl) ?_
  refine DL.read (i := 36) (by kernel_rfl) (by kernel_rfl) rfl rfl rfl (fun _ h => h) (OpR.load1 rfl (Cell.row .head rfl)) ?_
  refine DL.pure (i := 37) (by kernel_rfl) (by kernel_rfl) rfl rfl rfl (OpP.fieldAddr rfl) ?_
  refine DL.read (i := 38) (by kernel_rfl) (by kernel_rfl) rfl rfl rfl (fun _ h => h) (OpR.load1 rfl (Cell.row (.tail .head) rfl)) ?_
  refine DL.pure (i := 39) (by kernel_rfl) (by kernel_rfl) rfl rfl rfl (OpP.len rfl rfl) ?_
  refine DL.decF (i := 40) (by kernel_rfl) (by kernel_rfl) rfl rfl rfl (OpP.geq rfl rfl) (by omega) ?_
  refine DL.pure (i := 41) (by kernel_rfl) (by kernel_rfl) rfl rfl rfl (OpP.pickF rfl rfl) ?_
  refine DL.done (by kernel_rfl) ?_
  refine J.condF rfl ?_
  refine J.skip ?_
  refine J.seq ?_
  refine J.region ?_
  refine JL.pure rfl rfl (OpP.assign rfl) ?_
  refine JL.nil ?_
  refine J.seq ?_
  refine J.region ?_
  refine JL.pure rfl rfl (OpP.fieldAddr rfl) ?_
  refine JL.read rfl rfl (OpR.load1 rfl (Cell.row .head rfl)) ?_
  refine JL.mem rfl rfl (by apply OpM.buildSlice (by rfl) rfl (by rfl); (repeat (first | exact Fills.nil | (apply Fills.cons rfl rfl rfl; (case' hs => ((repeat (first | exact Spl.nil | apply Spl.here | apply Spl.there)); done)))))) ?_; rintro _ _ ⟨b84, rfl, rfl⟩
  refine JL.pure rfl rfl (OpP.assign rfl) ?_
  refine JL.nil ?_
  refine J.seq ?_
  refine J.seq ?_
  refine J.region ?_
  refine JL.pure rfl rfl (OpP.assign rfl) ?_
  refine JL.nil ?_
  refine J.block ?_
  have hTS : TS.length ≤ 120 := by
    have := e7.length_eq
    simp only [List.length_append, List.length_map] at this
    omega
  refine J.loopI (σ := Nat × List Nat × Que × List Ex × (Option Addr × Nat) × (Option Addr × Nat)) (fun s => total s.2.2.1) (fun s => Way w0 ns TS m s.1 s.2.1 s.2.2.1 s.2.2.2.1) (fun s => [(9, .int .i64 (s.1 : Nat)), (8, .slice s.2.2.2.2.1.1 s.2.1.length s.2.2.2.2.1.2), (7, .slice s.2.2.2.2.2.1 s.2.2.2.1.length s.2.2.2.2.2.2), (6, .pointer (some ⟨b6, 0, none⟩)), (5, .pointer (some ⟨b5, 0, none⟩)), (2, .pointer (some ⟨b2, 0, none⟩))])
    (fun s => [own 3 1 (.slice s.2.2.2.2.1.1 s.2.1.length s.2.2.2.2.1.2) s.2.1.length (ecells s.2.1), own 27 8 (.slice s.2.2.2.2.2.1 s.2.2.2.1.length s.2.2.2.2.2.2) s.2.2.2.1.length (s.2.2.2.1.flatMap xcl), row b6 48 [.int .i64 (q.i : Nat), .int .i64 (q.k : Nat), .int .i64 (f : Nat), .slice q.a q.rest.length q.c], row b5 42 [.slice (some ⟨gn, on, none⟩) ns.length c, .slice (some ⟨gp, op, none⟩) ps.length pc], own 45 11 (.slice (some ⟨gn, on, none⟩) ns.length c) ns.length (ns.flatMap ncl), own 48 4 (.slice (some ⟨gp, op, none⟩) ps.length pc) ps.length (ps.flatMap prcl), rests ps, row b2 36 [.slice fa fn fc, .string use, .slice (some ⟨ga, oa, none⟩) dps.length dc]]) (0, [f], [(f, TS, m)], [], (some ⟨b84, 0, none⟩, 1), (none, 0))
    ⟨rfl, Nat.zero_le _, fun x hx => by rw [List.mem_singleton.1 hx]; exact e5, by simp [testsOf], by simp, by simp [total]⟩ (by repeat (first | exact SubEnv.nil | refine SubEnv.cons (by first | rfl | exact congrArg (fun z => some (Value.int .i64 z)) (by omega) | (simp; done)) ?_)) (fun _ h => Own.pick (pre := [_, _, _, _, _, _, _, _]) (F := []) [1, 0, 2, 3, 4, 5, 6, 7] rfl (Own.own_nil (Own.own_whole (n := 1) (by decide) rfl h))) (fun ⟨i, ends, Q, ts, ⟨ea, ec⟩, ⟨ta, tc⟩⟩ hW back => ?_)
  dsimp only at hW back ⊢
  have w1 := congrArg List.length hW.e
  rw [List.length_drop, List.length_map] at w1
  have w2 := total_pos hW.u
  have w3 := hW.s
  have w4 := hW.l
  have w5 := hW.p.length_eq
  rw [List.length_append, List.length_map] at w5
  have o1 := xcls_one (es := ts)
  have hl8 := chunk8 ts
  have o2 := ecells_one ends
  have hle : (ecells ends).length = ends.length := List.length_map ..
  cases Q with
  | nil =>
    simp only [List.length_nil] at w1
    have hqr : RdO w0 [rests ps] (.slice q.a q.rest.length q.c) q.rest.length (q.rest.flatMap xcl) := rests_rd .head (List.mem_of_getElem? hqj)
    have o4 := xcls_one (es := q.rest)
    have hl5 := chunk8 q.rest
    have hperm : ((ts ++ q.rest).map enf).Perm (want.map enf) := by
      have h1 := hW.p
      rw [testsOf, List.flatMap_nil, List.append_nil] at h1
      rw [List.map_append]
      exact (List.Perm.append_right _ h1).trans e7
    have htt : ∀ x ∈ ts ++ q.rest, Tr w0 x := fun x hx => by
      rcases List.mem_append.1 hx with hx | hx
      · exact hW.t x hx
      · exact hq1 x hx
    have hleq := hperm.length_eq
    rw [List.length_map, List.length_map, List.length_append] at hleq
    obtain ⟨hwt, hw120⟩ := hwant
    refine J.seq ?_
    refine J.seq ?_
    refine J.region ?_
    refine JL.pure rfl rfl (OpP.move rfl) ?_
    refine JL.pure rfl rfl (OpP.move rfl) ?_
    refine JL.pure rfl rfl (OpP.len rfl rfl) ?_
    refine JL.decF rfl rfl (OpP.lss rfl rfl) (by omega) ?_
    refine JL.pure rfl rfl (OpP.move rfl) ?_
    refine JL.skip rfl rfl ?_
    refine JL.skip rfl rfl ?_
    refine JL.pure rfl rfl (OpP.pickF rfl rfl) ?_
    refine JL.nil ?_
    refine J.condF rfl ?_
    refine J.exit rfl ?_
    refine J.seq ?_
    refine J.region ?_
    refine JL.pure rfl rfl (OpP.move rfl) ?_
    refine JL.pure rfl rfl (OpP.fieldAddr rfl) ?_
    refine JL.read rfl rfl (OpR.load1 rfl (Cell.row (.tail (.tail .head)) rfl)) ?_
    refine JL.f1 ?_; refine JL.mem rfl rfl (OpM.appendH rfl (.inl ⟨_, Sl.und inferInstance⟩) (by rfl) rfl rfl (RdO.src (hqr.conv fun _ h => Own.pick (pre := [_, _, _, _, _, _, _, _]) [6] rfl h) (by first | assumption | exact fc_length _ _ | (simp; done) | (simp; omega))) (by first | exact bcells_one _ | exact scells_one _ | exact icells_one _ | assumption | exact fc_one fun _ => rfl) (by simp only [maxLen]; omega) (by omega)) ?_; rintro _ _ ⟨⟨a155, c155, rfl⟩, rfl⟩
    refine JL.pure rfl rfl (OpP.assign rfl) ?_
    refine JL.nil ?_
    refine J.seq ?_
    refine J.region ?_
    refine JL.read rfl rfl (OpR.loadN rfl (Cells.full (.tail (.tail (.tail (.tail (.tail (.tail (.tail .head)))))))) rfl) ?_
    refine JL.pure rfl rfl (OpP.fieldAddr rfl) ?_
    refine JL.read rfl rfl (OpR.load1 rfl (Cell.row (.tail (.tail .head)) rfl)) ?_
    refine JL.pure rfl rfl (OpP.fieldAddr rfl) ?_
    refine JL.read rfl rfl (OpR.load1 rfl (Cell.row (.tail (.tail .head)) rfl)) ?_
    refine JL.step rfl rfl (OpW.call (first := []) (captured := []) inferInstance rfl rfl (hal2 _)) ?_; rintro r161 _ ⟨a, ⟨c1, ⟨rfl, rfl⟩⟩⟩
    refine JL.pure rfl rfl (OpP.assign rfl) ?_
    refine JL.nil ?_
    refine J.seq ?_
    refine J.seq ?_
    refine J.region ?_
    refine JL.pure rfl rfl (OpP.move rfl) ?_
    refine JL.pure rfl rfl (OpP.len rfl rfl) ?_
    refine JL.pure rfl rfl (OpP.move rfl) ?_
    refine JL.pure rfl rfl (OpP.len rfl rfl) ?_
    refine JL.decF rfl rfl (OpP.neq rfl rfl) (by omega) ?_
    refine JL.nil ?_
    refine J.condF rfl ?_
    refine J.skip ?_
    refine J.seq ?_
    refine J.seq ?_
    refine J.region ?_
    refine JL.pure rfl rfl (OpP.assign rfl) ?_
    refine JL.nil ?_
    refine J.block ?_
    rw [← List.flatMap_append, ← List.length_append]
    rw [← List.length_append] at hleq
    generalize ts ++ q.rest = T at *
    have hlenW : ∀ p ∈ want, (xcl p).length = 8 := fun _ _ => rfl
    have hlenT : ∀ p ∈ T, (xcl p).length = 8 := fun _ _ => rfl
    have hcnt := fun w => cnt_perm (w := w) hperm
    clear hcs hqr o1 o2 o4 hl5 hl8 hle w1 w2 w3 w4 w5 hW back e7 e5 htr hdr hal2
    refine J.loopI (σ := Nat) (fun i => want.length - i) (fun i => i ≤ want.length) (fun i => [(12, .int .i64 (i : Nat)), (11, .slice a want.length c1), (7, .slice a155 T.length c155)])
      (fun _ => [own 27 8 (.slice a want.length c1) want.length (want.flatMap xcl), own 27 8 (.slice a155 T.length c155) T.length (T.flatMap xcl)]) 0 (Nat.zero_le _) (by repeat (first | exact SubEnv.nil | refine SubEnv.cons (by first | rfl | exact congrArg (fun z => some (Value.int .i64 z)) (by omega) | (simp; done)) ?_)) (fun _ h => Own.left (ks := [_, _]) h) (fun i hi back => ?_)
    by_cases hlt : i < want.length
    · obtain ⟨w, hwi⟩ : ∃ p, want[i]? = some p := ⟨_, List.getElem?_eq_getElem hlt⟩
      have tw := hwt w (List.mem_of_getElem? hwi)
      refine J.ownSome .head (by omega) fun gw ow ew kw => ?_
      subst ew
      refine J.ownSome (.tail .head) (by omega) fun gt ot et kt => ?_
      subst et
      have hcw : Cells w0 [own 27 8 (.slice (some ⟨gw, ow, none⟩) want.length c1) want.length (want.flatMap xcl), own 27 8 (.slice (some ⟨gt, ot, none⟩) T.length c155) T.length (T.flatMap xcl)] gw ow (want.flatMap xcl) := Cells.own .head
      have hct : Cells w0 [own 27 8 (.slice (some ⟨gw, ow, none⟩) want.length c1) want.length (want.flatMap xcl), own 27 8 (.slice (some ⟨gt, ot, none⟩) T.length c155) T.length (T.flatMap xcl)] gt ot (T.flatMap xcl) := Cells.own (.tail .head)
      refine J.seq ?_
      refine J.seq ?_
      refine J.region ?_
      refine JL.pure rfl rfl (OpP.move rfl) ?_
      refine JL.pure rfl rfl (OpP.move rfl) ?_
      refine JL.pure rfl rfl (OpP.len rfl rfl) ?_
      refine JL.decT rfl rfl (OpP.lss rfl rfl) (by omega) ?_
      refine JL.nil ?_
      refine J.condT rfl ?_
      refine J.skip ?_
      refine J.seq ?_
      refine J.block ?_
      refine J.seq ?_
      refine J.region ?_
      refine JL.pure rfl rfl (OpP.assign rfl) ?_
      refine JL.pure rfl rfl (OpP.assign rfl) ?_
      refine JL.nil ?_
      refine J.seq ?_
      refine J.seq ?_
      refine J.region ?_
      refine JL.pure rfl rfl (OpP.assign rfl) ?_
      refine JL.nil ?_
      refine J.block ?_
      refine J.loopI (σ := Nat) (fun k => want.length - k) (fun k => k ≤ want.length) (fun k => [(15, .int .i64 (k : Nat)), (13, .int .i64 (cnt w (want.take k) : Nat)), (14, .int .i64 (cnt w (T.take k) : Nat)), (12, .int .i64 (i : Nat)), (11, .slice (some ⟨gw, ow, none⟩) want.length c1), (7, .slice (some ⟨gt, ot, none⟩) T.length c155)])
        (fun _ => [own 27 8 (.slice (some ⟨gw, ow, none⟩) want.length c1) want.length (want.flatMap xcl), own 27 8 (.slice (some ⟨gt, ot, none⟩) T.length c155) T.length (T.flatMap xcl)]) 0 (Nat.zero_le _) (by repeat (first | exact SubEnv.nil | refine SubEnv.cons (by first | rfl | exact congrArg (fun z => some (Value.int .i64 z)) (by omega) | (simp; done)) ?_)) (fun _ h => h) (fun k hk back2 => ?_)
      by_cases hlt2 : k < want.length
      · obtain ⟨e, hek⟩ : ∃ p, want[k]? = some p := ⟨_, List.getElem?_eq_getElem hlt2⟩
        obtain ⟨t, htk⟩ : ∃ p, T[k]? = some p := ⟨_, List.getElem?_eq_getElem (by omega)⟩
        have te := hwt e (List.mem_of_getElem? hek)
        have tt := htt t (List.mem_of_getElem? htk)
        have n1 := cnt_take (w := w) hek
        have n2 := cnt_take (w := w) htk
        have m1 := cnt_le w (want.take k)
        have m2 := cnt_le w (T.take k)
        rw [List.length_take] at m1 m2
        have bk := @back2 (k + 1) (by omega) (by omega)
        rw [n1, n2] at bk
        clear back back2
        by_cases q1 : enf w = enf e <;> by_cases q2 : enf w = enf t
        · rw [if_pos q1, if_pos q2] at bk
          refine J.seq ?_
          refine J.seq ?_
          refine J.region ?_
          refine JL.pure rfl rfl (OpP.move rfl) ?_
          refine JL.pure rfl rfl (OpP.move rfl) ?_
          refine JL.pure rfl rfl (OpP.len rfl rfl) ?_
          refine JL.decT rfl rfl (OpP.lss rfl rfl) (by omega) ?_
          refine JL.nil ?_
          refine J.condT rfl ?_
          refine J.skip ?_
          refine J.seq ?_
          refine J.block ?_
          refine J.seq ?_
          refine J.seq ?_
          refine J.regionD [3, 7] (by kernel_rfl) ?_
          refine DL.pure (i := 0) (by kernel_rfl) (by kernel_rfl) rfl rfl rfl (OpP.move rfl) ?_
          refine DL.pure (i := 1) (by kernel_rfl) (by kernel_rfl) rfl rfl rfl (OpP.move rfl) ?_
          refine DL.pure (i := 2) (by kernel_rfl) (by kernel_rfl) rfl rfl rfl (OpP.indexAddr rfl rfl (by omega) (by omega)) ?_
          refine DL.read (i := 3) (by kernel_rfl) (by kernel_rfl) rfl rfl rfl (fun _ h => h) (OpR.loadN rfl (by apply Cells.chunkAt (Cells.own .head); (case' h => assumption); (case' hi => assumption); done) (by first | rfl | assumption)) ?_
          refine DL.pure (i := 4) (by kernel_rfl) (by kernel_rfl) rfl rfl rfl (OpP.move rfl) ?_
          refine DL.pure (i := 5) (by kernel_rfl) (by kernel_rfl) rfl rfl rfl (OpP.move rfl) ?_
          refine DL.pure (i := 6) (by kernel_rfl) (by kernel_rfl) rfl rfl rfl (OpP.indexAddr rfl rfl (by omega) (by omega)) ?_
          refine DL.read (i := 7) (by kernel_rfl) (by kernel_rfl) rfl rfl rfl (fun _ h => h) (OpR.loadN rfl (by apply Cells.chunkAt (Cells.own .head); (case' h => assumption); (case' hi => assumption); done) (by first | rfl | assumption)) ?_
          refine DL.only (i := 8) (by kernel_rfl) ?_
          refine DL1.stepF rfl rfl rfl (by kernel_rfl) (by exact OpW.call (first := []) (captured := []) inferInstance rfl rfl (sameE_t tw te q1)) ?_; rintro r187 _ ⟨rfl, rfl⟩
          refine DL.done (by kernel_rfl) ?_
          refine J.condT rfl ?_
          refine J.region ?_
          refine JL.pure rfl rfl (OpP.move rfl) ?_
          refine JL.pure rfl rfl (OpP.addI rfl rfl (by omega) (by omega)) ?_
          refine JL.pure rfl rfl (OpP.assign rfl) ?_
          refine JL.nil ?_
          refine J.seq ?_
          refine J.regionD [3, 7] (by kernel_rfl) ?_
          refine DL.pure (i := 0) (by kernel_rfl) (by kernel_rfl) rfl rfl rfl (OpP.move rfl) ?_
          refine DL.pure (i := 1) (by kernel_rfl) (by kernel_rfl) rfl rfl rfl (OpP.move rfl) ?_
          refine DL.pure (i := 2) (by kernel_rfl) (by kernel_rfl) rfl rfl rfl (OpP.indexAddr rfl rfl (by omega) (by omega)) ?_
          refine DL.read (i := 3) (by kernel_rfl) (by kernel_rfl) rfl rfl rfl (fun _ h => h) (OpR.loadN rfl (by apply Cells.chunkAt (Cells.own .head); (case' h => assumption); (case' hi => assumption); done) (by first | rfl | assumption)) ?_
          refine DL.pure (i := 4) (by kernel_rfl) (by kernel_rfl) rfl rfl rfl (OpP.move rfl) ?_
          refine DL.pure (i := 5) (by kernel_rfl) (by kernel_rfl) rfl rfl rfl (OpP.move rfl) ?_
          refine DL.pure (i := 6) (by kernel_rfl) (by kernel_rfl) rfl rfl rfl (OpP.indexAddr rfl rfl (by omega) (by omega)) ?_
          refine DL.read (i := 7) (by kernel_rfl) (by kernel_rfl) rfl rfl rfl (fun _ h => h) (OpR.loadN rfl (by apply Cells.chunkAt (Cells.own (.tail .head)); (case' h => assumption); (case' hi => assumption); done) (by first | rfl | assumption)) ?_
          refine DL.only (i := 8) (by kernel_rfl) ?_
          refine DL1.stepF rfl rfl rfl (by kernel_rfl) (by exact OpW.call (first := []) (captured := []) inferInstance rfl rfl (sameE_t tw tt q2)) ?_; rintro r198 _ ⟨rfl, rfl⟩
          refine DL.done (by kernel_rfl) ?_
          refine J.condT rfl ?_
          refine J.region ?_
          refine JL.pure rfl rfl (OpP.move rfl) ?_
          refine JL.pure rfl rfl (OpP.addI rfl rfl (by omega) (by omega)) ?_
          refine JL.pure rfl rfl (OpP.assign rfl) ?_
          refine JL.nil ?_
          refine J.inBlock ?_
          refine J.region ?_
          refine JL.pure rfl rfl (OpP.move rfl) ?_
          refine JL.pure rfl rfl (OpP.addI rfl rfl (by omega) (by omega)) ?_
          refine JL.pure rfl rfl (OpP.assign rfl) ?_
          refine JL.nil ?_
          exact bk (by repeat (first | exact SubEnv.nil | refine SubEnv.cons (by first | rfl | exact congrArg (fun z => some (Value.int .i64 z)) (by omega) | (simp; done)) ?_)) (fun _ h => h)
        · rw [if_pos q1, if_neg q2] at bk
          refine J.seq ?_
          refine J.seq ?_
          refine J.region ?_
          refine JL.pure rfl rfl (OpP.move rfl) ?_
          refine JL.pure rfl rfl (OpP.move rfl) ?_
          refine JL.pure rfl rfl (OpP.len rfl rfl) ?_
          refine JL.decT rfl rfl (OpP.lss rfl rfl) (by omega) ?_
          refine JL.nil ?_
          refine J.condT rfl ?_
          refine J.skip ?_
          refine J.seq ?_
          refine J.block ?_
          refine J.seq ?_
          refine J.seq ?_
          refine J.regionD [3, 7] (by kernel_rfl) ?_
          refine DL.pure (i := 0) (by kernel_rfl) (by kernel_rfl) rfl rfl rfl (OpP.move rfl) ?_
          refine DL.pure (i := 1) (by kernel_rfl) (by kernel_rfl) rfl rfl rfl (OpP.move rfl) ?_
          refine DL.pure (i := 2) (by kernel_rfl) (by kernel_rfl) rfl rfl rfl (OpP.indexAddr rfl rfl (by omega) (by omega)) ?_
          refine DL.read (i := 3) (by kernel_rfl) (by kernel_rfl) rfl rfl rfl (fun _ h => h) (OpR.loadN rfl (by apply Cells.chunkAt (Cells.own .head); (case' h => assumption); (case' hi => assumption); done) (by first | rfl | assumption)) ?_
          refine DL.pure (i := 4) (by kernel_rfl) (by kernel_rfl) rfl rfl rfl (OpP.move rfl) ?_
          refine DL.pure (i := 5) (by kernel_rfl) (by kernel_rfl) rfl rfl rfl (OpP.move rfl) ?_
          refine DL.pure (i := 6) (by kernel_rfl) (by kernel_rfl) rfl rfl rfl (OpP.indexAddr rfl rfl (by omega) (by omega)) ?_
          refine DL.read (i := 7) (by kernel_rfl) (by kernel_rfl) rfl rfl rfl (fun _ h => h) (OpR.loadN rfl (by apply Cells.chunkAt (Cells.own .head); (case' h => assumption); (case' hi => assumption); done) (by first | rfl | assumption)) ?_
          refine DL.only (i := 8) (by kernel_rfl) ?_
          refine DL1.stepF rfl rfl rfl (by kernel_rfl) (by exact OpW.call (first := []) (captured := []) inferInstance rfl rfl (sameE_t tw te q1)) ?_; rintro r187 _ ⟨rfl, rfl⟩
          refine DL.done (by kernel_rfl) ?_
          refine J.condT rfl ?_
          refine J.region ?_
          refine JL.pure rfl rfl (OpP.move rfl) ?_
          refine JL.pure rfl rfl (OpP.addI rfl rfl (by omega) (by omega)) ?_
          refine JL.pure rfl rfl (OpP.assign rfl) ?_
          refine JL.nil ?_
          refine J.seq ?_
          refine J.regionD [3, 7] (by kernel_rfl) ?_
          refine DL.pure (i := 0) (by kernel_rfl) (by kernel_rfl) rfl rfl rfl (OpP.move rfl) ?_
          refine DL.pure (i := 1) (by kernel_rfl) (by kernel_rfl) rfl rfl rfl (OpP.move rfl) ?_
          refine DL.pure (i := 2) (by kernel_rfl) (by kernel_rfl) rfl rfl rfl (OpP.indexAddr rfl rfl (by omega) (by omega)) ?_
          refine DL.read (i := 3) (by kernel_rfl) (by kernel_rfl) rfl rfl rfl (fun _ h => h) (OpR.loadN rfl (by apply Cells.chunkAt (Cells.own .head); (case' h => assumption); (case' hi => assumption); done) (by first | rfl | assumption)) ?_
          refine DL.pure (i := 4) (by kernel_rfl) (by kernel_rfl) rfl rfl rfl (OpP.move rfl) ?_
          refine DL.pure (i := 5) (by kernel_rfl) (by kernel_rfl) rfl rfl rfl (OpP.move rfl) ?_
          refine DL.pure (i := 6) (by kernel_rfl) (by kernel_rfl) rfl rfl rfl (OpP.indexAddr rfl rfl (by omega) (by omega)) ?_
          refine DL.read (i := 7) (by kernel_rfl) (by kernel_rfl) rfl rfl rfl (fun _ h => h) (OpR.loadN rfl (by apply Cells.chunkAt (Cells.own (.tail .head)); (case' h => assumption); (case' hi => assumption); done) (by first | rfl | assumption)) ?_
          refine DL.only (i := 8) (by kernel_rfl) ?_
          refine DL1.stepF rfl rfl rfl (by kernel_rfl) (by exact OpW.call (first := []) (captured := []) inferInstance rfl rfl (sameE_f tw tt q2)) ?_; rintro r198 _ ⟨rfl, rfl⟩
          refine DL.done (by kernel_rfl) ?_
          refine J.condF rfl ?_
          refine J.skip ?_
          refine J.inBlock ?_
          refine J.region ?_
          refine JL.pure rfl rfl (OpP.move rfl) ?_
          refine JL.pure rfl rfl (OpP.addI rfl rfl (by omega) (by omega)) ?_
          refine JL.pure rfl rfl (OpP.assign rfl) ?_
          refine JL.nil ?_
          exact bk (by repeat (first | exact SubEnv.nil | refine SubEnv.cons (by first | rfl | exact congrArg (fun z => some (Value.int .i64 z)) (by omega) | (simp; done)) ?_)) (fun _ h => h)
        · rw [if_neg q1, if_pos q2] at bk
          refine J.seq ?_
          refine J.seq ?_
          refine J.region ?_
          refine JL.pure rfl rfl (OpP.move rfl) ?_
          refine JL.pure rfl rfl (OpP.move rfl) ?_
          refine JL.pure rfl rfl (OpP.len rfl rfl) ?_
          refine JL.decT rfl rfl (OpP.lss rfl rfl) (by omega) ?_
          refine JL.nil ?_
          refine J.condT rfl ?_
          refine J.skip ?_
          refine J.seq ?_
          refine J.block ?_
          refine J.seq ?_
          refine J.seq ?_
          refine J.regionD [3, 7] (by kernel_rfl) ?_
          refine DL.pure (i := 0) (by kernel_rfl) (by kernel_rfl) rfl rfl rfl (OpP.move rfl) ?_
          refine DL.pure (i := 1) (by kernel_rfl) (by kernel_rfl) rfl rfl rfl (OpP.move rfl) ?_
          refine DL.pure (i := 2) (by kernel_rfl) (by kernel_rfl) rfl rfl rfl (OpP.indexAddr rfl rfl (by omega) (by omega)) ?_
          refine DL.read (i := 3) (by kernel_rfl) (by kernel_rfl) rfl rfl rfl (fun _ h => h) (OpR.loadN rfl (by apply Cells.chunkAt (Cells.own .head); (case' h => assumption); (case' hi => assumption); done) (by first | rfl | assumption)) ?_
          refine DL.pure (i := 4) (by kernel_rfl) (by kernel_rfl) rfl rfl rfl (OpP.move rfl) ?_
          refine DL.pure (i := 5) (by kernel_rfl) (by kernel_rfl) rfl rfl rfl (OpP.move rfl) ?_
          refine DL.pure (i := 6) (by kernel_rfl) (by kernel_rfl) rfl rfl rfl (OpP.indexAddr rfl rfl (by omega) (by omega)) ?_
          refine DL.read (i := 7) (by kernel_rfl) (by kernel_rfl) rfl rfl rfl (fun _ h => h) (OpR.loadN rfl (by apply Cells.chunkAt (Cells.own .head); (case' h => assumption); (case' hi => assumption); done) (by first | rfl | assumption)) ?_
          refine DL.only (i := 8) (by kernel_rfl) ?_
          refine DL1.stepF rfl rfl rfl (by kernel_rfl) (by exact OpW.call (first := []) (captured := []) inferInstance rfl rfl (sameE_f tw te q1)) ?_; rintro r187 _ ⟨rfl, rfl⟩
          refine DL.done (by kernel_rfl) ?_
          refine J.condF rfl ?_
          refine J.skip ?_
          refine J.seq ?_
          refine J.regionD [3, 7] (by kernel_rfl) ?_
          refine DL.pure (i := 0) (by kernel_rfl) (by kernel_rfl) rfl rfl rfl (OpP.move rfl) ?_
          refine DL.pure (i := 1) (by kernel_rfl) (by kernel_rfl) rfl rfl rfl (OpP.move rfl) ?_
          refine DL.pure (i := 2) (by kernel_rfl) (by kernel_rfl) rfl rfl rfl (OpP.indexAddr rfl rfl (by omega) (by omega)) ?_
          refine DL.read (i := 3) (by kernel_rfl) (by kernel_rfl) rfl rfl rfl (fun _ h => h) (OpR.loadN rfl (by apply Cells.chunkAt (Cells.own .head); (case' h => assumption); (case' hi => assumption); done) (by first | rfl | assumption)) ?_
          refine DL.pure (i := 4) (by kernel_rfl) (by kernel_rfl) rfl rfl rfl (OpP.move rfl) ?_
          refine DL.pure (i := 5) (by kernel_rfl) (by kernel_rfl) rfl rfl rfl (OpP.move rfl) ?_
          refine DL.pure (i := 6) (by kernel_rfl) (by kernel_rfl) rfl rfl rfl (OpP.indexAddr rfl rfl (by omega) (by omega)) ?_
          refine DL.read (i := 7) (by kernel_rfl) (by kernel_rfl) rfl rfl rfl (fun _ h => h) (OpR.loadN rfl (by apply Cells.chunkAt (Cells.own (.tail .head)); (case' h => assumption); (case' hi => assumption); done) (by first | rfl | assumption)) ?_
          refine DL.only (i := 8) (by kernel_rfl) ?_
          refine DL1.stepF rfl rfl rfl (by kernel_rfl) (by exact OpW.call (first := []) (captured := []) inferInstance rfl rfl (sameE_t tw tt q2)) ?_; rintro r198 _ ⟨rfl, rfl⟩
          refine DL.done (by kernel_rfl) ?_
          refine J.condT rfl ?_
          refine J.region ?_
          refine JL.pure rfl rfl (OpP.move rfl) ?_
          refine JL.pure rfl rfl (OpP.addI rfl rfl (by omega) (by omega)) ?_
          refine JL.pure rfl rfl (OpP.assign rfl) ?_
          refine JL.nil ?_
          refine J.inBlock ?_
          refine J.region ?_
          refine JL.pure rfl rfl (OpP.move rfl) ?_
          refine JL.pure rfl rfl (OpP.addI rfl rfl (by omega) (by omega)) ?_
          refine JL.pure rfl rfl (OpP.assign rfl) ?_
          refine JL.nil ?_
          exact bk (by repeat (first | exact SubEnv.nil | refine SubEnv.cons (by first | rfl | exact congrArg (fun z => some (Value.int .i64 z)) (by omega) | (simp; done)) ?_)) (fun _ h => h)
        · rw [if_neg q1, if_neg q2] at bk
          refine J.seq ?_
          refine J.seq ?_
          refine J.region ?_
          refine JL.pure rfl rfl (OpP.move rfl) ?_
          refine JL.pure rfl rfl (OpP.move rfl) ?_
          refine JL.pure rfl rfl (OpP.len rfl rfl) ?_
          refine JL.decT rfl rfl (OpP.lss rfl rfl) (by omega) ?_
          refine JL.nil ?_
          refine J.condT rfl ?_
          refine J.skip ?_
          refine J.seq ?_
          refine J.block ?_
          refine J.seq ?_
          refine J.seq ?_
          refine J.regionD [3, 7] (by kernel_rfl) ?_
          refine DL.pure (i := 0) (by kernel_rfl) (by kernel_rfl) rfl rfl rfl (OpP.move rfl) ?_
          refine DL.pure (i := 1) (by kernel_rfl) (by kernel_rfl) rfl rfl rfl (OpP.move rfl) ?_
          refine DL.pure (i := 2) (by kernel_rfl) (by kernel_rfl) rfl rfl rfl (OpP.indexAddr rfl rfl (by omega) (by omega)) ?_
          refine DL.read (i := 3) (by kernel_rfl) (by kernel_rfl) rfl rfl rfl (fun _ h => h) (OpR.loadN rfl (by apply Cells.chunkAt (Cells.own .head); (case' h => assumption); (case' hi => assumption); done) (by first | rfl | assumption)) ?_
          refine DL.pure (i := 4) (by kernel_rfl) (by kernel_rfl) rfl rfl rfl (OpP.move rfl) ?_
          refine DL.pure (i := 5) (by kernel_rfl) (by kernel_rfl) rfl rfl rfl (OpP.move rfl) ?_
          refine DL.pure (i := 6) (by kernel_rfl) (by kernel_rfl) rfl rfl rfl (OpP.indexAddr rfl rfl (by omega) (by omega)) ?_
          refine DL.read (i := 7) (by kernel_rfl) (by kernel_rfl) rfl rfl rfl (fun _ h => h) (OpR.loadN rfl (by apply Cells.chunkAt (Cells.own .head); (case' h => assumption); (case' hi => assumption); done) (by first | rfl | assumption)) ?_
          refine DL.only (i := 8) (by kernel_rfl) ?_
          refine DL1.stepF rfl rfl rfl (by kernel_rfl) (by exact OpW.call (first := []) (captured := []) inferInstance rfl rfl (sameE_f tw te q1)) ?_; rintro r187 _ ⟨rfl, rfl⟩
          refine DL.done (by kernel_rfl) ?_
          refine J.condF rfl ?_
          refine J.skip ?_
          refine J.seq ?_
          refine J.regionD [3, 7] (by kernel_rfl) ?_
          refine DL.pure (i := 0) (by kernel_rfl) (by kernel_rfl) rfl rfl rfl (OpP.move rfl) ?_
          refine DL.pure (i := 1) (by kernel_rfl) (by kernel_rfl) rfl rfl rfl (OpP.move rfl) ?_
          refine DL.pure (i := 2) (by kernel_rfl) (by kernel_rfl) rfl rfl rfl (OpP.indexAddr rfl rfl (by omega) (by omega)) ?_
          refine DL.read (i := 3) (by kernel_rfl) (by kernel_rfl) rfl rfl rfl (fun _ h => h) (OpR.loadN rfl (by apply Cells.chunkAt (Cells.own .head); (case' h => assumption); (case' hi => assumption); done) (by first | rfl | assumption)) ?_
          refine DL.pure (i := 4) (by kernel_rfl) (by kernel_rfl) rfl rfl rfl (OpP.move rfl) ?_
          refine DL.pure (i := 5) (by kernel_rfl) (by kernel_rfl) rfl rfl rfl (OpP.move rfl) ?_
          refine DL.pure (i := 6) (by kernel_rfl) (by kernel_rfl) rfl rfl rfl (OpP.indexAddr rfl rfl (by omega) (by omega)) ?_
          refine DL.read (i := 7) (by kernel_rfl) (by kernel_rfl) rfl rfl rfl (fun _ h => h) (OpR.loadN rfl (by apply Cells.chunkAt (Cells.own (.tail .head)); (case' h => assumption); (case' hi => assumption); done) (by first | rfl | assumption)) ?_
          refine DL.only (i := 8) (by kernel_rfl) ?_
          refine DL1.stepF rfl rfl rfl (by kernel_rfl) (by exact OpW.call (first := []) (captured := []) inferInstance rfl rfl (sameE_f tw tt q2)) ?_; rintro r198 _ ⟨rfl, rfl⟩
          refine DL.done (by kernel_rfl) ?_
          refine J.condF rfl ?_
          refine J.skip ?_
          refine J.inBlock ?_
          refine J.region ?_
          refine JL.pure rfl rfl (OpP.move rfl) ?_
          refine JL.pure rfl rfl (OpP.addI rfl rfl (by omega) (by omega)) ?_
          refine JL.pure rfl rfl (OpP.assign rfl) ?_
          refine JL.nil ?_
          exact bk (by repeat (first | exact SubEnv.nil | refine SubEnv.cons (by first | rfl | exact congrArg (fun z => some (Value.int .i64 z)) (by omega) | (simp; done)) ?_)) (fun _ h => h)
      · obtain rfl : k = want.length := by omega
        have hw := hcnt w
        rw [List.take_length, List.take_of_length_le (by omega), hw]
        refine J.seq ?_
        refine J.seq ?_
        refine J.region ?_
        refine JL.pure rfl rfl (OpP.move rfl) ?_
        refine JL.pure rfl rfl (OpP.move rfl) ?_
        refine JL.pure rfl rfl (OpP.len rfl rfl) ?_
        refine JL.decF rfl rfl (OpP.lss rfl rfl) (by omega) ?_
        refine JL.nil ?_
        refine J.condF rfl ?_
        refine J.exit rfl ?_
        refine J.seq ?_
        refine J.region ?_
        refine JL.pure rfl rfl (OpP.move rfl) ?_
        refine JL.pure rfl rfl (OpP.move rfl) ?_
        refine JL.decF rfl rfl (OpP.neq rfl rfl) (by omega) ?_
        refine JL.nil ?_
        refine J.condF rfl ?_
        refine J.skip ?_
        refine J.inBlock ?_
        refine J.region ?_
        refine JL.pure rfl rfl (OpP.move rfl) ?_
        refine JL.pure rfl rfl (OpP.addI rfl rfl (by omega) (by omega)) ?_
        refine JL.pure rfl rfl (OpP.assign rfl) ?_
        refine JL.nil ?_
        exact back (i + 1) (by omega) (by omega) (by repeat (first | exact SubEnv.nil | refine SubEnv.cons (by first | rfl | exact congrArg (fun z => some (Value.int .i64 z)) (by omega) | (simp; done)) ?_)) (fun _ h => h)
    · refine J.seq ?_
      refine J.seq ?_
      refine J.region ?_
      refine JL.pure rfl rfl (OpP.move rfl) ?_
      refine JL.pure rfl rfl (OpP.move rfl) ?_
      refine JL.pure rfl rfl (OpP.len rfl rfl) ?_
      refine JL.decF rfl rfl (OpP.lss rfl rfl) (by omega) ?_
      refine JL.nil ?_
      refine J.condF rfl ?_
      refine J.exit rfl ?_
      refine J.seq ?_
      refine J.region ?_
      refine JL.pure rfl rfl (OpP.assign rfl) ?_
      refine JL.nil ?_
      refine J.ret1 rfl rfl ?_
      rfl
  | cons v Q =>
    obtain ⟨f1, us, n1⟩ := v
    simp only [List.length_cons] at w1 w2
    have hx := ecells_get hW.at.1
    have hU := hW.u _ (List.mem_cons_self ..)
    have hfl := hU.lt.1
    dsimp only at hU hfl hx
    refine J.ownSome .head (by omega) fun ge oe ee ke => ?_
    subst ee
    cases hU with
    | root g1 g2 =>
      rename_i x
      refine J.seq ?_
      refine J.seq ?_
      refine J.region ?_
      refine JL.pure rfl rfl (OpP.move rfl) ?_
      refine JL.pure rfl rfl (OpP.move rfl) ?_
      refine JL.pure rfl rfl (OpP.len rfl rfl) ?_
      refine JL.decT rfl rfl (OpP.lss rfl rfl) (by omega) ?_
      refine JL.pure rfl rfl (OpP.move rfl) ?_
      refine JL.pure rfl rfl (OpP.move rfl) ?_
      refine JL.decT rfl rfl (OpP.lss rfl rfl) (by omega) ?_
      refine JL.pure rfl rfl (OpP.pickT rfl rfl) ?_
      refine JL.nil ?_
      refine J.condT rfl ?_
      refine J.skip ?_
      refine J.seq ?_
      refine J.block ?_
      refine J.seq ?_
      refine J.regionD [1, 5, 7] (by kernel_rfl) ?_
      refine DL.pure (i := 0) (by kernel_rfl) (by kernel_rfl) rfl rfl rfl (OpP.fieldAddr rfl) ?_
      refine DL.read (i := 1) (by kernel_rfl) (by kernel_rfl) rfl rfl rfl (fun _ h => h) (OpR.load1 rfl (Cell.row (.tail (.tail (.tail .head))) rfl)) ?_
      refine DL.pure (i := 2) (by kernel_rfl) (by kernel_rfl) rfl rfl rfl (OpP.move rfl) ?_
      refine DL.pure (i := 3) (by kernel_rfl) (by kernel_rfl) rfl rfl rfl (OpP.move rfl) ?_
      refine DL.pure (i := 4) (by kernel_rfl) (by kernel_rfl) rfl rfl rfl (OpP.indexAddr rfl rfl (by omega) (by omega)) ?_
      refine DL.read (i := 5) (by kernel_rfl) (by kernel_rfl) rfl rfl rfl (fun _ h => h) (OpR.load1 rfl (by apply Cells.cell (hv := hx) (Cells.own .head) (fun _ h => h); omega)) ?_
      refine DL.pure (i := 6) (by kernel_rfl) (by kernel_rfl) rfl rfl rfl (OpP.indexAddr rfl rfl (by omega) (by omega)) ?_
      refine DL.read (i := 7) (by kernel_rfl) (by kernel_rfl) rfl rfl rfl (fun _ h => h) (OpR.loadN rfl (by apply Cells.chunkAt (Cells.own (.tail (.tail (.tail (.tail .head))))); (case' h => assumption); (case' hi => assumption); done) (by first | rfl | assumption)) ?_
      refine DL.only (i := 8) (by kernel_rfl) ?_
      refine DL1.stepK rfl rfl rfl (OpM.w OpM.alloc) (by rintro _ _ ⟨b10, rfl, rfl⟩ _ h; exact Own.pick (pre := [_, _, _, _, _, _, _, _, _]) [1, 2, 3, 4, 5, 6, 7, 8] rfl h) ?_; rintro _ _ ⟨b10, rfl, rfl⟩
      refine DL.only (i := 9) (by kernel_rfl) ?_
      refine DL1.stepF0 rfl rfl (by kernel_rfl) (OpM.w (by apply OpM.storeN rfl rfl (by rfl) (oneC rfl (oneC rfl (oneC rfl (oneC rfl (oneC rfl (oneC rfl (oneC rfl (oneC rfl (oneC rfl (oneC rfl (one1 rfl))))))))))); (case' hu => exact .head); (case' hs => exact (.here (.here (.here (.here (.here (.here (.here (.here (.here (.here (.here .nil)))))))))))); done)) ?_; rintro _ _ ⟨rfl, rfl⟩
      refine DL.done (by kernel_rfl) ?_
      refine J.seq ?_
      refine J.seq ?_
      refine J.regionD [1, 5, 10, 14, 19, 24, 28] (by kernel_rfl) ?_
      refine DL.pure (i := 0) (by kernel_rfl) (by kernel_rfl) rfl rfl rfl (OpP.fieldAddr rfl) ?_
      refine DL.read (i := 1) (by kernel_rfl) (by kernel_rfl) rfl rfl rfl (fun _ h => h) (OpR.load1 rfl (Cell.row .head rfl)) ?_
      refine DL.decT (i := 2) (by kernel_rfl) (by kernel_rfl) rfl rfl rfl (OpP.lss rfl rfl) (by omega) ?_
      refine DL.pure (i := 3) (by kernel_rfl) (by kernel_rfl) rfl rfl rfl (OpP.move rfl) ?_
      refine DL.skip (i := 4) (by kernel_rfl) (by kernel_rfl) rfl rfl rfl ?_
      refine DL.skip (i := 5) (by kernel_rfl) (by kernel_rfl) rfl rfl rfl ?_
      refine DL.skip (i := 6) (by kernel_rfl) (by kernel_rfl) rfl rfl rfl ?_
      refine DL.pure (i := 7) (by kernel_rfl) (by kernel_rfl) rfl rfl rfl (OpP.pickT rfl rfl) ?_
      refine DL.pure (i := 8) (by kernel_rfl) (by kernel_rfl) rfl rfl rfl (OpP.move rfl) ?_
      refine DL.skip (i := 9) (by kernel_rfl) (by kernel_rfl) rfl rfl rfl ?_
      refine DL.skip (i := 10) (by kernel_rfl) (by kernel_rfl) rfl rfl rfl ?_
      refine DL.skip (i := 11) (by kernel_rfl) (by kernel_rfl) rfl rfl rfl ?_
      refine DL.skip (i := 12) (by kernel_rfl) (by kernel_rfl) rfl rfl rfl ?_
      refine DL.skip (i := 13) (by kernel_rfl) (by kernel_rfl) rfl rfl rfl ?_
      refine DL.skip (i := 14) (by kernel_rfl) (by kernel_rfl) rfl rfl rfl ?_
      refine DL.skip (i := 15) (by kernel_rfl) (by kernel_rfl) rfl rfl rfl ?_
      refine DL.pure (i := 16) (by kernel_rfl) (by kernel_rfl) rfl rfl rfl (OpP.pickT rfl rfl) ?_
      refine DL.pure (i := 17) (by kernel_rfl) (by kernel_rfl) rfl rfl rfl (OpP.move rfl) ?_
      refine DL.skip (i := 18) (by kernel_rfl) (by kernel_rfl) rfl rfl rfl ?_
      refine DL.skip (i := 19) (by kernel_rfl) (by kernel_rfl) rfl rfl rfl ?_
      refine DL.skip (i := 20) (by kernel_rfl) (by kernel_rfl) rfl rfl rfl ?_
      refine DL.pure (i := 21) (by kernel_rfl) (by kernel_rfl) rfl rfl rfl (OpP.pickT rfl rfl) ?_
      refine DL.pure (i := 22) (by kernel_rfl) (by kernel_rfl) rfl rfl rfl (OpP.move rfl) ?_
      refine DL.skip (i := 23) (by kernel_rfl) (by kernel_rfl) rfl rfl rfl ?_
      refine DL.skip (i := 24) (by kernel_rfl) (by kernel_rfl) rfl rfl rfl ?_
      refine DL.skip (i := 25) (by kernel_rfl) (by kernel_rfl) rfl rfl rfl ?_
      refine DL.skip (i := 26) (by kernel_rfl) (by kernel_rfl) rfl rfl rfl ?_
      refine DL.skip (i := 27) (by kernel_rfl) (by kernel_rfl) rfl rfl rfl ?_
      refine DL.skip (i := 28) (by kernel_rfl) (by kernel_rfl) rfl rfl rfl ?_
      refine DL.skip (i := 29) (by kernel_rfl) (by kernel_rfl) rfl rfl rfl ?_
      refine DL.pure (i := 30) (by kernel_rfl) (by kernel_rfl) rfl rfl rfl (OpP.pickT rfl rfl) ?_
      refine DL.done (by kernel_rfl) ?_
      refine J.condT rfl ?_
      refine J.exit rfl ?_
      refine J.region ?_
      refine JL.pure rfl rfl (OpP.move rfl) ?_
      refine JL.pure rfl rfl (OpP.addI rfl rfl (by omega) (by omega)) ?_
      refine JL.pure rfl rfl (OpP.assign rfl) ?_
      refine JL.nil ?_
      exact back (i + 1, ends, Q, ts, (some ⟨ge, oe, none⟩, ec), (ta, tc)) hW.root (by have := hW.root.s; dsimp only; omega) (by repeat (first | exact SubEnv.nil | refine SubEnv.cons (by first | rfl | exact congrArg (fun z => some (Value.int .i64 z)) (by omega) | (simp; done)) ?_)) (fun _ h => h.tail)
    | test g1 g2 g3 g4 g5 g6 g7 =>
      rename_i p1 x us n1
      obtain ⟨xk, xp, xo, xt⟩ := x
      dsimp only at g2 g3 g4 g6
      subst g4 g6
      have hxt : Tr w0 xt := htr _ (List.mem_of_getElem? g1)
      have hW2 := hW.test hxt g7
      refine J.seq ?_
      refine J.seq ?_
      refine J.region ?_
      refine JL.pure rfl rfl (OpP.move rfl) ?_
      refine JL.pure rfl rfl (OpP.move rfl) ?_
      refine JL.pure rfl rfl (OpP.len rfl rfl) ?_
      refine JL.decT rfl rfl (OpP.lss rfl rfl) (by omega) ?_
      refine JL.pure rfl rfl (OpP.move rfl) ?_
      refine JL.pure rfl rfl (OpP.move rfl) ?_
      refine JL.decT rfl rfl (OpP.lss rfl rfl) (by omega) ?_
      refine JL.pure rfl rfl (OpP.pickT rfl rfl) ?_
      refine JL.nil ?_
      refine J.condT rfl ?_
      refine J.skip ?_
      refine J.seq ?_
      refine J.block ?_
      refine J.seq ?_
      refine J.regionD [1, 5, 7] (by kernel_rfl) ?_
      refine DL.pure (i := 0) (by kernel_rfl) (by kernel_rfl) rfl rfl rfl (OpP.fieldAddr rfl) ?_
      refine DL.read (i := 1) (by kernel_rfl) (by kernel_rfl) rfl rfl rfl (fun _ h => h) (OpR.load1 rfl (Cell.row (.tail (.tail (.tail .head))) rfl)) ?_
      refine DL.pure (i := 2) (by kernel_rfl) (by kernel_rfl) rfl rfl rfl (OpP.move rfl) ?_
      refine DL.pure (i := 3) (by kernel_rfl) (by kernel_rfl) rfl rfl rfl (OpP.move rfl) ?_
      refine DL.pure (i := 4) (by kernel_rfl) (by kernel_rfl) rfl rfl rfl (OpP.indexAddr rfl rfl (by omega) (by omega)) ?_
      refine DL.read (i := 5) (by kernel_rfl) (by kernel_rfl) rfl rfl rfl (fun _ h => h) (OpR.load1 rfl (by apply Cells.cell (hv := hx) (Cells.own .head) (fun _ h => h); omega)) ?_
      refine DL.pure (i := 6) (by kernel_rfl) (by kernel_rfl) rfl rfl rfl (OpP.indexAddr rfl rfl (by omega) (by omega)) ?_
      refine DL.read (i := 7) (by kernel_rfl) (by kernel_rfl) rfl rfl rfl (fun _ h => h) (OpR.loadN rfl (by apply Cells.chunkAt (Cells.own (.tail (.tail (.tail (.tail .head))))); (case' h => assumption); (case' hi => assumption); done) (by first | rfl | assumption)) ?_
      refine DL.only (i := 8) (by kernel_rfl) ?_
      refine DL1.stepK rfl rfl rfl (OpM.w OpM.alloc) (by rintro _ _ ⟨b10, rfl, rfl⟩ _ h; exact Own.pick (pre := [_, _, _, _, _, _, _, _, _]) [1, 2, 3, 4, 5, 6, 7, 8] rfl h) ?_; rintro _ _ ⟨b10, rfl, rfl⟩
      refine DL.only (i := 9) (by kernel_rfl) ?_
      refine DL1.stepF0 rfl rfl (by kernel_rfl) (OpM.w (by apply OpM.storeN rfl rfl (by rfl) (oneC rfl (oneC rfl (oneC rfl (oneC rfl (oneC rfl (oneC rfl (oneC rfl (oneC rfl (oneC rfl (oneC rfl (one1 rfl))))))))))); (case' hu => exact .head); (case' hs => exact (.here (.here (.here (.here (.here (.here (.here (.here (.here (.here (.here .nil)))))))))))); done)) ?_; rintro _ _ ⟨rfl, rfl⟩
      refine DL.done (by kernel_rfl) ?_
      refine J.seq ?_
      refine J.conv (l' := row b10 45 (n11 xk (p1 : Nat) 0 xt) :: _) (fun _ h => h) ?_
      refine J.seq ?_
      refine J.regionD [1, 5, 10, 14, 19, 24, 28] (by kernel_rfl) ?_
      refine DL.pure (i := 0) (by kernel_rfl) (by kernel_rfl) rfl rfl rfl (OpP.fieldAddr rfl) ?_
      refine DL.read (i := 1) (by kernel_rfl) (by kernel_rfl) rfl rfl rfl (fun _ h => h) (OpR.load1 rfl (Cell.row .head rfl)) ?_
      refine DL.decF (i := 2) (by kernel_rfl) (by kernel_rfl) rfl rfl rfl (OpP.lss rfl rfl) (by omega) ?_
      refine DL.pure (i := 3) (by kernel_rfl) (by kernel_rfl) rfl rfl rfl (OpP.move rfl) ?_
      refine DL.pure (i := 4) (by kernel_rfl) (by kernel_rfl) rfl rfl rfl (OpP.fieldAddr rfl) ?_
      refine DL.read (i := 5) (by kernel_rfl) (by kernel_rfl) rfl rfl rfl (fun _ h => h) (OpR.load1 rfl (Cell.row .head rfl)) ?_
      refine DL.decF (i := 6) (by kernel_rfl) (by kernel_rfl) rfl rfl rfl (OpP.lss rfl rfl) (by omega) ?_
      refine DL.pure (i := 7) (by kernel_rfl) (by kernel_rfl) rfl rfl rfl (OpP.pickF rfl rfl) ?_
      refine DL.pure (i := 8) (by kernel_rfl) (by kernel_rfl) rfl rfl rfl (OpP.move rfl) ?_
      refine DL.pure (i := 9) (by kernel_rfl) (by kernel_rfl) rfl rfl rfl (OpP.fieldAddr rfl) ?_
      refine DL.read (i := 10) (by kernel_rfl) (by kernel_rfl) rfl rfl rfl (fun _ h => h) (OpR.load1 rfl (Cell.row .head rfl)) ?_
      refine DL.pure (i := 11) (by kernel_rfl) (by kernel_rfl) rfl rfl rfl (OpP.move rfl) ?_
      refine DL.pure (i := 12) (by kernel_rfl) (by kernel_rfl) rfl rfl rfl (OpP.move rfl) ?_
      refine DL.pure (i := 13) (by kernel_rfl) (by kernel_rfl) rfl rfl rfl (OpP.indexAddr rfl rfl (by omega) (by omega)) ?_
      refine DL.read (i := 14) (by kernel_rfl) (by kernel_rfl) rfl rfl rfl (fun _ h => h) (OpR.load1 rfl (by apply Cells.cell (hv := hx) (Cells.own (.tail .head)) (fun _ h => h); omega)) ?_
      refine DL.decF (i := 15) (by kernel_rfl) (by kernel_rfl) rfl rfl rfl (OpP.geq rfl rfl) (by omega) ?_
      refine DL.pure (i := 16) (by kernel_rfl) (by kernel_rfl) rfl rfl rfl (OpP.pickF rfl rfl) ?_
      refine DL.pure (i := 17) (by kernel_rfl) (by kernel_rfl) rfl rfl rfl (OpP.move rfl) ?_
      refine DL.pure (i := 18) (by kernel_rfl) (by kernel_rfl) rfl rfl rfl (OpP.fieldAddr rfl) ?_
      refine DL.read (i := 19) (by kernel_rfl) (by kernel_rfl) rfl rfl rfl (fun _ h => h) (OpR.load1 rfl (Cell.row .head rfl)) ?_
      refine DL.decF (i := 20) (by kernel_rfl) (by kernel_rfl) rfl rfl rfl (OpP.lss rfl rfl) (by omega) ?_
      refine DL.pure (i := 21) (by kernel_rfl) (by kernel_rfl) rfl rfl rfl (OpP.pickF rfl rfl) ?_
      refine DL.pure (i := 22) (by kernel_rfl) (by kernel_rfl) rfl rfl rfl (OpP.move rfl) ?_
      refine DL.pure (i := 23) (by kernel_rfl) (by kernel_rfl) rfl rfl rfl (OpP.fieldAddr rfl) ?_
      refine DL.read (i := 24) (by kernel_rfl) (by kernel_rfl) rfl rfl rfl (fun _ h => h) (OpR.load1 rfl (Cell.row .head rfl)) ?_
      refine DL.pure (i := 25) (by kernel_rfl) (by kernel_rfl) rfl rfl rfl (OpP.move rfl) ?_
      refine DL.pure (i := 26) (by kernel_rfl) (by kernel_rfl) rfl rfl rfl (OpP.move rfl) ?_
      refine DL.pure (i := 27) (by kernel_rfl) (by kernel_rfl) rfl rfl rfl (OpP.indexAddr rfl rfl (by omega) (by omega)) ?_
      refine DL.read (i := 28) (by kernel_rfl) (by kernel_rfl) rfl rfl rfl (fun _ h => h) (OpR.load1 rfl (by apply Cells.cell (hv := hx) (Cells.own (.tail .head)) (fun _ h => h); omega)) ?_
      refine DL.decF (i := 29) (by kernel_rfl) (by kernel_rfl) rfl rfl rfl (OpP.geq rfl rfl) (by omega) ?_
      refine DL.pure (i := 30) (by kernel_rfl) (by kernel_rfl) rfl rfl rfl (OpP.pickF rfl rfl) ?_
      refine DL.done (by kernel_rfl) ?_
      refine J.condF rfl ?_
      refine J.skip ?_
      refine J.seq ?_
      refine J.seq ?_
      refine J.region ?_
      refine JL.pure rfl rfl (OpP.fieldAddr rfl) ?_
      refine JL.read rfl rfl (OpR.load1 rfl (Cell.row .head rfl)) ?_
      refine JL.decF rfl rfl (OpP.eql rfl rfl) (by omega) ?_
      refine JL.nil ?_
      refine J.condF rfl ?_
      refine J.region ?_
      refine JL.pure rfl rfl (OpP.move rfl) ?_
      refine JL.pure rfl rfl (OpP.fieldAddr rfl) ?_
      refine JL.read rfl rfl (OpR.loadN rfl (Cells.sub 8 .head rfl) rfl) ?_
      refine JL.mem rfl rfl (by apply OpM.buildSlice (by rfl) rfl (by rfl); (repeat (first | exact Fills.nil | (apply Fills.cons rfl rfl rfl; (case' hs => ((repeat (first | exact Spl.nil | apply Spl.here | apply Spl.there)); done)))))) ?_; rintro _ _ ⟨b145, rfl, rfl⟩
      refine JL.f3 ?_; refine JL.mem rfl rfl (OpM.appendH rfl (.inl ⟨_, Sl.und inferInstance⟩) (by rfl) rfl rfl (RdO.src (RdO.ofRow (.tail .head) (by first | exact Nat.le_refl _ | decide | omega)) (by first | assumption | exact fc_length _ _ | (simp; done) | (simp; omega))) (oneC rfl (oneC rfl (oneC rfl (oneC rfl (oneC rfl (oneC rfl (oneC rfl (one1 rfl)))))))) (by simp only [maxLen]; omega) (by omega)) ?_; rintro _ _ ⟨⟨a146, c146, rfl⟩, rfl⟩
      refine JL.pure rfl rfl (OpP.assign rfl) ?_
      refine JL.nil ?_
      refine J.region ?_
      refine JL.pure rfl rfl (OpP.move rfl) ?_
      refine JL.pure rfl rfl (OpP.fieldAddr rfl) ?_
      refine JL.read rfl rfl (OpR.load1 rfl (Cell.row (.tail (.tail .head)) rfl)) ?_
      refine JL.mem rfl rfl (by apply OpM.buildSlice (by rfl) rfl (by rfl); (repeat (first | exact Fills.nil | (apply Fills.cons rfl rfl rfl; (case' hs => ((repeat (first | exact Spl.nil | apply Spl.here | apply Spl.there)); done)))))) ?_; rintro _ _ ⟨b150, rfl, rfl⟩
      refine JL.f4 ?_; refine JL.mem rfl rfl (OpM.appendH rfl (.inl ⟨_, Sl.und inferInstance⟩) (by rfl) rfl rfl (RdO.src (RdO.ofRow (.tail .head) (by first | exact Nat.le_refl _ | decide | omega)) (by first | assumption | exact fc_length _ _ | (simp; done) | (simp; omega))) (one1 rfl) (by simp only [maxLen]; omega) (by omega)) ?_; rintro _ _ ⟨⟨a151, c151, rfl⟩, rfl⟩
      refine JL.pure rfl rfl (OpP.assign rfl) ?_
      refine JL.nil ?_
      refine J.inBlock ?_
      refine J.region ?_
      refine JL.pure rfl rfl (OpP.move rfl) ?_
      refine JL.pure rfl rfl (OpP.addI rfl rfl (by omega) (by omega)) ?_
      refine JL.pure rfl rfl (OpP.assign rfl) ?_
      refine JL.nil ?_
      have bk := @back (i + 1, ends ++ [p1], Q ++ [(p1, us, n1)], ts ++ [xt], (a151, c151), (a146, c146)) hW2 (by have := hW2.s; dsimp only at w3 ⊢; omega)
      dsimp only at bk
      rw [List.length_append, List.length_append, ecells_app, List.flatMap_append] at bk
      exact bk (by repeat (first | exact SubEnv.nil | refine SubEnv.cons (by first | rfl | exact congrArg (fun z => some (Value.int .i64 z)) (by omega) | (simp; done)) ?_)) (fun _ h => Own.pick (pre := [_, _, _, _, _, _, _, _, _, _, _]) (F := []) [0, 2, 5, 6, 7, 8, 9, 10] rfl h)
    | join g1 g2 g3 g4 g5 g6 g7 g8 =>
      rename_i p1 o3 x us vs n1 m1
      obtain ⟨xk, xp, xo, xt⟩ := x
      dsimp only at g2 g3 g5
      subst g2 g3 g5
      have hW2 := hW.join g7 g8
      refine J.seq ?_
      refine J.seq ?_
      refine J.region ?_
      refine JL.pure rfl rfl (OpP.move rfl) ?_
      refine JL.pure rfl rfl (OpP.move rfl) ?_
      refine JL.pure rfl rfl (OpP.len rfl rfl) ?_
      refine JL.decT rfl rfl (OpP.lss rfl rfl) (by omega) ?_
      refine JL.pure rfl rfl (OpP.move rfl) ?_
      refine JL.pure rfl rfl (OpP.move rfl) ?_
      refine JL.decT rfl rfl (OpP.lss rfl rfl) (by omega) ?_
      refine JL.pure rfl rfl (OpP.pickT rfl rfl) ?_
      refine JL.nil ?_
      refine J.condT rfl ?_
      refine J.skip ?_
      refine J.seq ?_
      refine J.block ?_
      refine J.seq ?_
      refine J.regionD [1, 5, 7] (by kernel_rfl) ?_
      refine DL.pure (i := 0) (by kernel_rfl) (by kernel_rfl) rfl rfl rfl (OpP.fieldAddr rfl) ?_
      refine DL.read (i := 1) (by kernel_rfl) (by kernel_rfl) rfl rfl rfl (fun _ h => h) (OpR.load1 rfl (Cell.row (.tail (.tail (.tail .head))) rfl)) ?_
      refine DL.pure (i := 2) (by kernel_rfl) (by kernel_rfl) rfl rfl rfl (OpP.move rfl) ?_
      refine DL.pure (i := 3) (by kernel_rfl) (by kernel_rfl) rfl rfl rfl (OpP.move rfl) ?_
      refine DL.pure (i := 4) (by kernel_rfl) (by kernel_rfl) rfl rfl rfl (OpP.indexAddr rfl rfl (by omega) (by omega)) ?_
      refine DL.read (i := 5) (by kernel_rfl) (by kernel_rfl) rfl rfl rfl (fun _ h => h) (OpR.load1 rfl (by apply Cells.cell (hv := hx) (Cells.own .head) (fun _ h => h); omega)) ?_
      refine DL.pure (i := 6) (by kernel_rfl) (by kernel_rfl) rfl rfl rfl (OpP.indexAddr rfl rfl (by omega) (by omega)) ?_
      refine DL.read (i := 7) (by kernel_rfl) (by kernel_rfl) rfl rfl rfl (fun _ h => h) (OpR.loadN rfl (by apply Cells.chunkAt (Cells.own (.tail (.tail (.tail (.tail .head))))); (case' h => assumption); (case' hi => assumption); done) (by first | rfl | assumption)) ?_
      refine DL.only (i := 8) (by kernel_rfl) ?_
      refine DL1.stepK rfl rfl rfl (OpM.w OpM.alloc) (by rintro _ _ ⟨b10, rfl, rfl⟩ _ h; exact Own.pick (pre := [_, _, _, _, _, _, _, _, _]) [1, 2, 3, 4, 5, 6, 7, 8] rfl h) ?_; rintro _ _ ⟨b10, rfl, rfl⟩
      refine DL.only (i := 9) (by kernel_rfl) ?_
      refine DL1.stepF0 rfl rfl (by kernel_rfl) (OpM.w (by apply OpM.storeN rfl rfl (by rfl) (oneC rfl (oneC rfl (oneC rfl (oneC rfl (oneC rfl (oneC rfl (oneC rfl (oneC rfl (oneC rfl (oneC rfl (one1 rfl))))))))))); (case' hu => exact .head); (case' hs => exact (.here (.here (.here (.here (.here (.here (.here (.here (.here (.here (.here .nil)))))))))))); done)) ?_; rintro _ _ ⟨rfl, rfl⟩
      refine DL.done (by kernel_rfl) ?_
      refine J.seq ?_
      refine J.conv (l' := row b10 45 (n11 4 (p1 : Nat) (o3 : Nat) xt) :: _) (fun _ h => h) ?_
      refine J.seq ?_
      refine J.regionD [1, 5, 10, 14, 19, 24, 28] (by kernel_rfl) ?_
      refine DL.pure (i := 0) (by kernel_rfl) (by kernel_rfl) rfl rfl rfl (OpP.fieldAddr rfl) ?_
      refine DL.read (i := 1) (by kernel_rfl) (by kernel_rfl) rfl rfl rfl (fun _ h => h) (OpR.load1 rfl (Cell.row .head rfl)) ?_
      refine DL.decF (i := 2) (by kernel_rfl) (by kernel_rfl) rfl rfl rfl (OpP.lss rfl rfl) (by omega) ?_
      refine DL.pure (i := 3) (by kernel_rfl) (by kernel_rfl) rfl rfl rfl (OpP.move rfl) ?_
      refine DL.pure (i := 4) (by kernel_rfl) (by kernel_rfl) rfl rfl rfl (OpP.fieldAddr rfl) ?_
      refine DL.read (i := 5) (by kernel_rfl) (by kernel_rfl) rfl rfl rfl (fun _ h => h) (OpR.load1 rfl (Cell.row .head rfl)) ?_
      refine DL.decF (i := 6) (by kernel_rfl) (by kernel_rfl) rfl rfl rfl (OpP.lss rfl rfl) (by omega) ?_
      refine DL.pure (i := 7) (by kernel_rfl) (by kernel_rfl) rfl rfl rfl (OpP.pickF rfl rfl) ?_
      refine DL.pure (i := 8) (by kernel_rfl) (by kernel_rfl) rfl rfl rfl (OpP.move rfl) ?_
      refine DL.pure (i := 9) (by kernel_rfl) (by kernel_rfl) rfl rfl rfl (OpP.fieldAddr rfl) ?_
      refine DL.read (i := 10) (by kernel_rfl) (by kernel_rfl) rfl rfl rfl (fun _ h => h) (OpR.load1 rfl (Cell.row .head rfl)) ?_
      refine DL.pure (i := 11) (by kernel_rfl) (by kernel_rfl) rfl rfl rfl (OpP.move rfl) ?_
      refine DL.pure (i := 12) (by kernel_rfl) (by kernel_rfl) rfl rfl rfl (OpP.move rfl) ?_
      refine DL.pure (i := 13) (by kernel_rfl) (by kernel_rfl) rfl rfl rfl (OpP.indexAddr rfl rfl (by omega) (by omega)) ?_
      refine DL.read (i := 14) (by kernel_rfl) (by kernel_rfl) rfl rfl rfl (fun _ h => h) (OpR.load1 rfl (by apply Cells.cell (hv := hx) (Cells.own (.tail .head)) (fun _ h => h); omega)) ?_
      refine DL.decF (i := 15) (by kernel_rfl) (by kernel_rfl) rfl rfl rfl (OpP.geq rfl rfl) (by omega) ?_
      refine DL.pure (i := 16) (by kernel_rfl) (by kernel_rfl) rfl rfl rfl (OpP.pickF rfl rfl) ?_
      refine DL.pure (i := 17) (by kernel_rfl) (by kernel_rfl) rfl rfl rfl (OpP.move rfl) ?_
      refine DL.pure (i := 18) (by kernel_rfl) (by kernel_rfl) rfl rfl rfl (OpP.fieldAddr rfl) ?_
      refine DL.read (i := 19) (by kernel_rfl) (by kernel_rfl) rfl rfl rfl (fun _ h => h) (OpR.load1 rfl (Cell.row .head rfl)) ?_
      refine DL.decF (i := 20) (by kernel_rfl) (by kernel_rfl) rfl rfl rfl (OpP.lss rfl rfl) (by omega) ?_
      refine DL.pure (i := 21) (by kernel_rfl) (by kernel_rfl) rfl rfl rfl (OpP.pickF rfl rfl) ?_
      refine DL.pure (i := 22) (by kernel_rfl) (by kernel_rfl) rfl rfl rfl (OpP.move rfl) ?_
      refine DL.pure (i := 23) (by kernel_rfl) (by kernel_rfl) rfl rfl rfl (OpP.fieldAddr rfl) ?_
      refine DL.read (i := 24) (by kernel_rfl) (by kernel_rfl) rfl rfl rfl (fun _ h => h) (OpR.load1 rfl (Cell.row .head rfl)) ?_
      refine DL.pure (i := 25) (by kernel_rfl) (by kernel_rfl) rfl rfl rfl (OpP.move rfl) ?_
      refine DL.pure (i := 26) (by kernel_rfl) (by kernel_rfl) rfl rfl rfl (OpP.move rfl) ?_
      refine DL.pure (i := 27) (by kernel_rfl) (by kernel_rfl) rfl rfl rfl (OpP.indexAddr rfl rfl (by omega) (by omega)) ?_
      refine DL.read (i := 28) (by kernel_rfl) (by kernel_rfl) rfl rfl rfl (fun _ h => h) (OpR.load1 rfl (by apply Cells.cell (hv := hx) (Cells.own (.tail .head)) (fun _ h => h); omega)) ?_
      refine DL.decF (i := 29) (by kernel_rfl) (by kernel_rfl) rfl rfl rfl (OpP.geq rfl rfl) (by omega) ?_
      refine DL.pure (i := 30) (by kernel_rfl) (by kernel_rfl) rfl rfl rfl (OpP.pickF rfl rfl) ?_
      refine DL.done (by kernel_rfl) ?_
      refine J.condF rfl ?_
      refine J.skip ?_
      refine J.seq ?_
      refine J.seq ?_
      refine J.region ?_
      refine JL.pure rfl rfl (OpP.fieldAddr rfl) ?_
      refine JL.read rfl rfl (OpR.load1 rfl (Cell.row .head rfl)) ?_
      refine JL.decT rfl rfl (OpP.eql rfl rfl) (by omega) ?_
      refine JL.nil ?_
      refine J.condT rfl ?_
      refine J.region ?_
      refine JL.pure rfl rfl (OpP.move rfl) ?_
      refine JL.pure rfl rfl (OpP.fieldAddr rfl) ?_
      refine JL.read rfl rfl (OpR.load1 rfl (Cell.row .head rfl)) ?_
      refine JL.mem rfl rfl (by apply OpM.buildSlice (by rfl) rfl (by rfl); (repeat (first | exact Fills.nil | (apply Fills.cons rfl rfl rfl; (case' hs => ((repeat (first | exact Spl.nil | apply Spl.here | apply Spl.there)); done)))))) ?_; rintro _ _ ⟨b140, rfl, rfl⟩
      refine JL.f2 ?_; refine JL.mem rfl rfl (OpM.appendH rfl (.inl ⟨_, Sl.und inferInstance⟩) (by rfl) rfl rfl (RdO.src (RdO.ofRow (.tail .head) (by first | exact Nat.le_refl _ | decide | omega)) (by first | assumption | exact fc_length _ _ | (simp; done) | (simp; omega))) (one1 rfl) (by simp only [maxLen]; omega) (by omega)) ?_; rintro _ _ ⟨⟨a141, c141, rfl⟩, rfl⟩
      refine JL.pure rfl rfl (OpP.assign rfl) ?_
      refine JL.nil ?_
      refine J.region ?_
      refine JL.pure rfl rfl (OpP.move rfl) ?_
      refine JL.pure rfl rfl (OpP.fieldAddr rfl) ?_
      refine JL.read rfl rfl (OpR.load1 rfl (Cell.row (.tail (.tail .head)) rfl)) ?_
      refine JL.mem rfl rfl (by apply OpM.buildSlice (by rfl) rfl (by rfl); (repeat (first | exact Fills.nil | (apply Fills.cons rfl rfl rfl; (case' hs => ((repeat (first | exact Spl.nil | apply Spl.here | apply Spl.there)); done)))))) ?_; rintro _ _ ⟨b150, rfl, rfl⟩
      refine JL.f1 ?_; refine JL.mem rfl rfl (OpM.appendH rfl (.inl ⟨_, Sl.und inferInstance⟩) (by rfl) rfl rfl (RdO.src (RdO.ofRow (.tail .head) (by first | exact Nat.le_refl _ | decide | omega)) (by first | assumption | exact fc_length _ _ | (simp; done) | (simp; omega))) (one1 rfl) (by simp only [maxLen]; omega) (by omega)) ?_; rintro _ _ ⟨⟨a151, c151, rfl⟩, rfl⟩
      refine JL.pure rfl rfl (OpP.assign rfl) ?_
      refine JL.nil ?_
      refine J.inBlock ?_
      refine J.region ?_
      refine JL.pure rfl rfl (OpP.move rfl) ?_
      refine JL.pure rfl rfl (OpP.addI rfl rfl (by omega) (by omega)) ?_
      refine JL.pure rfl rfl (OpP.assign rfl) ?_
      refine JL.nil ?_
      have bk := @back (i + 1, ends ++ [o3] ++ [p1], Q ++ [(o3, us, n1), (p1, vs, m1)], ts, (a151, c151), (ta, tc)) hW2 (by have := hW2.s; dsimp only; omega)
      dsimp only at bk
      rw [List.length_append, List.length_append, ecells_app, ecells_app] at bk
      exact bk (by repeat (first | exact SubEnv.nil | refine SubEnv.cons (by first | rfl | exact congrArg (fun z => some (Value.int .i64 z)) (by omega) | (simp; done)) ?_)) (fun _ h => Own.pick (pre := [_, _, _, _, _, _, _, _, _, _, _]) (F := []) [0, 4, 5, 6, 7, 8, 9, 10] rfl h)
theorem NetworkHolds_law {W : World} {a : Array Value} {z : Int} (h : Fm Try.prog W 36 a.toList) (hz : (Lit.int .u8 z).wf = true) :
    Calls Try.prog 6 #[.agg a, .int .u8 z] W fun e w' => e = .returned (.bool true) ∧ Below W.heap.size W w' := by
  obtain ⟨d, ⟨hd, hfn⟩, q⟩ := Fm.doc h
  obtain rfl : a = _ := by rw [← Array.toArray_toList (xs := a), q]
  refine FnO.law (NetworkHolds_ok hd hfn ?_) (Own.nil W)
  simp [Lit.wf, IntKind.min, IntKind.max, IntKind.signed, IntKind.bits] at hz
  exact hz
end Go.Proofs.D
